import Derived.Test.YtlkmcbgkohpmiaaRun
import Derived.Test.YtlkmcbgkohpmiaaShort
import Derived.Test.YtlkmcbgkohpmiaaCall
import Derived.Test.YtlkmcbgkohpmiaaNest
import Derived.Test.YtlkmcbgkohpmiaaRange
import Derived.Test.YtlkmcbgkohpmiaaRev
import Derived.Test.YtlkmcbgkohpmiaaSort
import Derived.Test.YtlkmcbgkohpmiaaIter
import Derived.Test.YtlkmcbgkohpmiaaArr
import Derived.Test.YtlkmcbgkohpmiaaRow
import Derived.Test.YtlkmcbgkohpmiaaMap
import Derived.Test.YtlkmcbgkohpmiaaCut
import Derived.Test.YtlkmcbgkohpmiaaNil
import Derived.Test.YtlkmcbgkohpmiaaRbox
set_option linter.all false
namespace Go.Proofs.Ytlkmcbgkohpmiaa
open Ev
namespace F
def qgl (n:Nat) (b:Int) (c:List Int):Int→Option ((Int)⊕((Int)⊕(Bool)))
  | a=>cond (decide (a<(c.length:Int))) ((get c a).bind fun x29=>cond (decide (x29=0)) (some (.inr (.inr false))) ((chk (-b)).bind fun z38=>cond (decide (x29≤z38)) (some (.inr (.inr false))) (cond (decide (b≤x29)) (some (.inr (.inr false))) ((chk (a+1)).bind fun z44=>some (.inl z44))))) (some (.inr (.inl a)))

def qfc (n:Nat) (a:Int) (b:List Int):Option (Bool):=
  cond (decide (a<1)) (some false) (cond (decide (10<a)) (some false) (cond (decide (200<(b.length:Int))) (some false) (((loopN n (F.qgl n a b) 0).bind fun o17=>match o17 with
    | (.inl c)=>some true
    | (.inr q)=>some q))))

def qgu (n:Nat) (c:List Int) (a:Int):Int→Option ((Int)⊕((Int)⊕(Bool)))
  | b=>cond (decide (b<(c.length:Int))) ((get c b).bind fun x17=>cond (decide (a<1)) (some (.inr (.inr false))) (cond (decide (x17=0)) (some (.inr (.inr false))) (cond (decide (a<x17)) (some (.inr (.inr false))) ((chk (-a)).bind fun z30=>cond (decide (x17<z30)) (some (.inr (.inr false))) ((chk (b+1)).bind fun z34=>some (.inl z34)))))) (some (.inr (.inl b)))

def qgo (n:Nat) (b:List Int) (a:Int):Option (Bool):=
  ((loopN n (F.qgu n b a) 0).bind fun o5=>match o5 with
    | (.inl c)=>some true
    | (.inr q)=>some q)

def qfg (n:Nat) (c:List Int):(List Int)×Int→Option (((List Int)×Int)⊕(((List Int)×Int)))
  | (a,b)=>cond (decide (b<(c.length:Int))) ((get c b).bind fun x18=>(chk ((a.length:Int)-1)).bind fun z25=>cond (decide (0≤z25)) ((get a z25).bind fun x29=>(chk (-x18)).bind fun z35=>cond (decide (x29=z35)) ((cut 0 z25 a.length).bind fun u39=>(chk (b+1)).bind fun z43=>some (.inl ((a.take z25.toNat),z43))) ((lim (a.length+([x18]:List Int).length)).bind fun u51=>(chk (b+1)).bind fun z58=>some (.inl ((a++([x18]:List Int)),z58)))) ((lim (a.length+([x18]:List Int).length)).bind fun u67=>(chk (b+1)).bind fun z74=>some (.inl ((a++([x18]:List Int)),z74)))) (some (.inr (a,b)))

def qfb (n:Nat) (b:List Int) (a:List Int):Option ((List Int)):=
  ((loopN n (F.qfg n a) (b,0)).bind fun o6=>match o6 with
    | (c,d)=>some c)


def qfx (n:Nat) (a:List Int):Option ((List Int)):=
  (pos (a.length:Int)).bind fun u4=>(F.qfb n ([]:List Int) a).bind fun y12=>some y12

def qdw (n:Nat) (c:Int):Int×(List (List Int))→Option ((Int×(List (List Int)))⊕((Int×(List (List Int)))))
  | (a,b)=>cond (decide (a<(((List.replicate c.toNat ([]:List Int))).length:Int))) ((chk (a+1)).bind fun z27=>(get b a).bind fun x35=>(chk (a+1)).bind fun z42=>some (.inl (z42,(b.set a.toNat ([z27]:List Int))))) (some (.inr (a,b)))

def qha (n:Nat) (a:Int) (c:Int) (d:List Int):Option ((List (List Int))):=
  (pos c).bind fun u5=>((loopN n (F.qdw n c) (0,(List.replicate c.toNat ([]:List Int)))).bind fun o15=>match o15 with
    | (e,b)=>cond (decide (0<a)) ((chk (a-1)).bind fun z50=>(chk (a+1)).bind fun z52=>(chk (-a)).bind fun z54=>(get b z50).bind fun x68=>(get (b.set z50.toNat ([a,z52,z54]:List Int)) a).bind fun x75=>some ((b.set z50.toNat ([a,z52,z54]:List Int)).set a.toNat ([a]:List Int))) ((chk (-a)).bind fun z84=>(chk (z84-1)).bind fun z86=>(chk (z84+1)).bind fun z88=>(chk (z84+1)).bind fun z96=>(chk (-z96)).bind fun z98=>(chk (z84+1)).bind fun z100=>(get b z86).bind fun x108=>(get (b.set z86.toNat ([z88]:List Int)) z84).bind fun x115=>some ((b.set z86.toNat ([z88]:List Int)).set z84.toNat ([z98,z84,z100]:List Int))))


def qbt (n:Nat) (x106:List Int):Nat×(List Int)→Option ((Nat×(List Int))⊕((List Int)))
  | (b,a)=>cond (decide (b<x106.length)) (((x106.reverse)[b]?).bind fun c=>(chk (-c)).bind fun z133=>(F.qfb n a ([z133]:List Int)).bind fun y141=>some (.inl (b+1,y141))) (some (.inr a))

def qbs (n:Nat) (e:List Int) (c:List (List Int)):Int×(List Int)→Option ((Int×(List Int))⊕((Int×(List Int))))
  | (b,a)=>cond (decide (b<(e.length:Int))) ((get e b).bind fun x62=>cond (decide (0<x62)) ((chk (x62-1)).bind fun z74=>(get c z74).bind fun x76=>(F.qfb n a x76).bind fun y88=>(chk (b+1)).bind fun z99=>some (.inl (z99,y88))) ((chk (-x62)).bind fun z102=>(chk (z102-1)).bind fun z104=>(get c z104).bind fun x106=>((loopN n (F.qbt n x106) (0,a)).bind fun o121=>match o121 with
    | d=>(chk (b+1)).bind fun z153=>some (.inl (z153,d))))) (some (.inr (b,a)))

def qci (n:Nat) (c:List Int) (b:List (List Int)):Int→Option ((Int)⊕((Int)⊕((List Int)×Int)))
  | a=>cond (decide (a<(c.length:Int))) ((get c a).bind fun x18=>(F.qgo n ([x18]:List Int) (b.length:Int)).bind fun y31=>cond (!y31) (some (.inr (.inr ([],2)))) ((chk (a+1)).bind fun z39=>some (.inl z39))) (some (.inr (.inl a)))

def qfv (n:Nat) (c:List Int) (a:List (List Int)):Option ((List Int)×Int):=
  ((loopN n (F.qci n c a) 0).bind fun o6=>match o6 with
    | (.inl d)=>((loopN n (F.qbs n c a) (0,([]:List Int))).bind fun o50=>match o50 with
    | (e,b)=>some (b,0))
    | (.inr q)=>some q)

def qce (n:Nat) (d:Int) (b:List Int):(List Int)×Int→Option (((List Int)×Int)⊕(((List Int)×Int)⊕((List Int)×Int)))
  | (c,a)=>cond (decide (a<(b.length:Int))) ((get b a).bind fun x55=>(F.qha n x55 d b).bind fun y62=>(F.qfv n c y62).bind fun y71=>cond (!(decide (y71.2=0))) (some (.inr (.inr ([],y71.2)))) (cond (decide (20000<(y71.1.length:Int))) (some (.inr (.inr ([],5)))) ((chk (a+1)).bind fun z92=>some (.inl (y71.1,z92))))) (some (.inr (.inl (c,a))))

def artin_Act (n:Nat) (a:Int) (b:List Int) (c:List Int):Option ((List Int)×Int):=
  (F.qfc n a b).bind fun y9=>cond (!y9) (some ([],1)) ((F.qgo n c a).bind fun y17=>cond (!y17) (some ([],2)) ((F.qfx n c).bind fun y26=>cond (decide (20000<(y26.length:Int))) (some ([],5)) (((loopN n (F.qce n a b) (y26,0)).bind fun o43=>match o43 with
    | (.inl (d,e))=>some (d,0)
    | (.inr q)=>some q))))

def qes (n:Nat) (c:Int) (d:List Int):(List (List Int))×Int→Option (((List (List Int))×Int)⊕(((List (List Int))×Int)⊕((List (List Int))×Int)))
  | (b,a)=>cond (decide (a<c)) ((chk (a+1)).bind fun z32=>(F.artin_Act n c d ([z32]:List Int)).bind fun y40=>cond (!(decide (y40.2=0))) (some (.inr (.inr ([],y40.2)))) ((lim (b.length+([y40.1]:List (List Int)).length)).bind fun u62=>(chk (a+1)).bind fun z69=>some (.inl ((b++([y40.1]:List (List Int))),z69)))) (some (.inr (.inl (b,a))))

def qen (n:Nat) (a:Int) (b:List Int):Option ((List (List Int))×Int):=
  (F.qfc n a b).bind fun y8=>cond (!y8) (some ([],1)) (((loopN n (F.qes n a b) (([]:List (List Int)),0)).bind fun o19=>match o19 with
    | (.inl (c,d))=>some (c,0)
    | (.inr q)=>some q))


def qct (n:Nat) (a:Int):Option (Int):=
  (chk (-a)).bind fun z3=>some (max a z3)

def qex (n:Nat) (d:Int) (c:List Int):Int×(List Int)→Option ((Int×(List Int))⊕((Int×(List Int))))
  | (a,b)=>cond (decide (a<(((List.replicate d.toNat (0:Int))).length:Int))) ((get c a).bind fun x136=>(get b x136).bind fun x142=>(chk (a+1)).bind fun z149=>some (.inl (z149,(b.set x136.toNat a)))) (some (.inr (a,b)))

def qcv (n:Nat) (c:List Int):Int×(List Int)→Option ((Int×(List Int))⊕((Int×(List Int))))
  | (b,a)=>cond (decide (b<(c.length:Int))) ((get c b).bind fun x63=>(F.qct n x63).bind fun y70=>(chk (y70-1)).bind fun z76=>(get a y70).bind fun x78=>(chk (y70-1)).bind fun z85=>(get a z85).bind fun x87=>(get a z76).bind fun x94=>(get (a.set z76.toNat x78) y70).bind fun x102=>(chk (b+1)).bind fun z109=>some (.inl (z109,((a.set z76.toNat x78).set y70.toNat x87)))) (some (.inr (b,a)))

def qeu (n:Nat) (c:Int):Int×(List Int)→Option ((Int×(List Int))⊕((Int×(List Int))))
  | (a,b)=>cond (decide (a<(((List.replicate c.toNat (0:Int))).length:Int))) ((get b a).bind fun x38=>(chk (a+1)).bind fun z45=>some (.inl (z45,(b.set a.toNat a)))) (some (.inr (a,b)))

def braid_Perm (n:Nat) (a:Int) (b:List Int):Option ((List Int)):=
  (F.qfc n a b).bind fun y8=>cond (!y8) (some ([])) ((pos a).bind fun u15=>((loopN n (F.qeu n a) (0,(List.replicate a.toNat (0:Int)))).bind fun o26=>match o26 with
    | (f,d)=>((loopN n (F.qcv n b) (0,d)).bind fun o51=>match o51 with
    | (g,e)=>(pos a).bind fun u114=>((loopN n (F.qex n a e) (0,(List.replicate a.toNat (0:Int)))).bind fun o124=>match o124 with
    | (h,c)=>some c))))

def qgv (n:Nat) (c:List Int):Int×(List Bool)→Option ((Int×(List Bool))⊕((Int×(List Bool))⊕(Bool)))
  | (b,a)=>cond (decide (b<(c.length:Int))) ((get c b).bind fun x26=>cond (decide (x26<0)) (some (.inr (.inr false))) (cond (decide ((c.length:Int)≤x26)) (some (.inr (.inr false))) ((get a x26).bind fun x38=>cond x38 (some (.inr (.inr false))) ((get a x26).bind fun x47=>(chk (b+1)).bind fun z54=>some (.inl (z54,(a.set x26.toNat true))))))) (some (.inr (.inl (b,a))))

def qgs (n:Nat) (a:List Int):Option (Bool):=
  (pos (a.length:Int)).bind fun u4=>((loopN n (F.qgv n a) (0,(List.replicate (a.length:Int).toNat false))).bind fun o14=>match o14 with
    | (.inl (c,b))=>some true
    | (.inr q)=>some q)

def perm_Cycles_b1 (n:Nat) (d:List Int):(List Int)×Int×(List Bool)→Option (((List Int)×Int×(List Bool))⊕(((List Int)×Int×(List Bool))))
  | (c,a,b)=>(get b a).bind fun x50=>cond (!x50) ((get b a).bind fun x59=>(lim (c.length+([a]:List Int).length)).bind fun u72=>(get d a).bind fun x80=>some (.inl ((c++([a]:List Int)),x80,(b.set a.toNat true)))) (some (.inr (c,a,b)))

def perm_Cycles_b0 (n:Nat) (f:List Int):(List (List Int))×Int×(List Bool)→Option (((List (List Int))×Int×(List Bool))⊕(((List (List Int))×Int×(List Bool))))
  | (b,a,c)=>cond (decide (a<(f.length:Int))) (((loopN n (F.perm_Cycles_b1 n f) (([]:List Int),a,c)).bind fun o41=>match o41 with
    | (e,g,d)=>cond (decide (0<(e.length:Int))) ((lim (b.length+([e]:List (List Int)).length)).bind fun u96=>(chk (a+1)).bind fun z103=>some (.inl ((b++([e]:List (List Int))),z103,d))) ((chk (a+1)).bind fun z105=>some (.inl (b,z105,d))))) (some (.inr (b,a,c)))

def qfz (n:Nat) (a:List Int):Option ((List (List Int))):=
  (F.qgs n a).bind fun y5=>cond (!y5) (some ([])) ((pos (a.length:Int)).bind fun u13=>((loopN n (F.perm_Cycles_b0 n a) (([]:List (List Int)),0,(List.replicate (a.length:Int).toNat false))).bind fun o25=>match o25 with
    | (b,d,c)=>some b))

def qdp (n:Nat) (c:List (List Int)):(List Int)×Int→Option (((List Int)×Int)⊕(((List Int)×Int)))
  | (b,a)=>cond (decide (a<(c.length:Int))) ((get c a).bind fun x19=>(F.qfb n b x19).bind fun y30=>(chk (a+1)).bind fun z39=>some (.inl (y30,z39))) (some (.inr (b,a)))

def word_Mul (n:Nat) (b:List (List Int)):Option ((List Int)):=
  ((loopN n (F.qdp n b) (([]:List Int),0)).bind fun o7=>match o7 with
    | (a,c)=>some a)

def qgf (n:Nat) (c:Int) (x76:List Int):Int×(List Int)→Option ((Int×(List Int))⊕((Int×(List Int))))
  | (a,b)=>cond (decide (a<(x76.length:Int))) ((get x76 a).bind fun x100=>(get b x100).bind fun x106=>(chk (a+1)).bind fun z113=>some (.inl (z113,(b.set x100.toNat c)))) (some (.inr (a,b)))

def qcl (n:Nat) (y10:(List (List Int))×Int):Int×(List (List Int))→Option ((Int×(List (List Int)))⊕((Int×(List (List Int)))))
  | (b,a)=>cond (decide (b<(y10.1.length:Int))) ((get y10.1 b).bind fun x136=>(chk (b+1)).bind fun z149=>(chk (-z149)).bind fun z151=>(F.word_Mul n ([x136,([z151]:List Int)]:List (List Int))).bind fun y165=>(lim (a.length+([y165]:List (List Int)).length)).bind fun u180=>(chk (b+1)).bind fun z188=>some (.inl (z188,(a++([y165]:List (List Int)))))) (some (.inr (b,a)))

def qdl (n:Nat) (y54:(List (List Int))):Int×(List Int)→Option ((Int×(List Int))⊕((Int×(List Int))))
  | (a,b)=>cond (decide (a<(y54.length:Int))) ((get y54 a).bind fun x76=>((loopN n (F.qgf n a x76) (0,b)).bind fun o88=>match o88 with
    | (d,c)=>(chk (a+1)).bind fun z117=>some (.inl (z117,c)))) (some (.inr (a,b)))

def qfd (n:Nat) (a:Int) (c:List Int):Option (Int×(List Int)×(List (List Int))×Int):=
  (F.qen n a c).bind fun y10=>cond (!(decide (y10.2=0))) (some (0,[],[],y10.2)) ((pos a).bind fun u31=>(F.braid_Perm n a c).bind fun y45=>(F.qfz n y45).bind fun y54=>((loopN n (F.qdl n y54) (0,(List.replicate a.toNat (0:Int)))).bind fun o64=>match o64 with
    | (e,d)=>((loopN n (F.qcl n y10) (0,([]:List (List Int)))).bind fun o124=>match o124 with
    | (f,b)=>some (a,d,b,0))))

def qfm (n:Nat) (b:List Int) (c:List Int):Int→Option ((Int)⊕((Int)⊕(Bool)))
  | a=>cond (decide (a<(b.length:Int))) ((get b a).bind fun x25=>(get c a).bind fun x32=>cond (!(decide (x25=x32))) (some (.inr (.inr false))) ((chk (a+1)).bind fun z41=>some (.inl z41))) (some (.inr (.inl a)))

def qdn (n:Nat) (a:List Int) (b:List Int):Option (Bool):=
  cond (!(decide ((a.length:Int)=(b.length:Int)))) (some false) (((loopN n (F.qfm n a b) 0).bind fun o10=>match o10 with
    | (.inl c)=>some true
    | (.inr q)=>some q))


def law35_awake (n:Nat):Option (Bool):=
  (F.qen n 2 ([1]:List Int)).bind fun y9=>(F.qfd n 2 ([1,1,1]:List Int)).bind fun y26=>cond (decide (y9.2=0)) (cond (decide (y26.2.2.2=0)) (cond (decide ((y9.1.length:Int)=2)) ((get y9.1 0).bind fun x52=>(F.qdn n x52 ([1,2,(-1)]:List Int)).bind fun y69=>cond y69 ((get y9.1 1).bind fun x73=>(F.qdn n x73 ([1]:List Int)).bind fun y90=>cond y90 (cond (decide ((y26.2.2.1.length:Int)=2)) ((get y26.2.2.1 1).bind fun x95=>(F.qdn n x95 ([1,2,1,(-2),(-1),(-2)]:List Int)).bind fun y112=>some y112) (some false)) (some false)) (some false)) (some false)) (some false)) (some false)


def law35_great (n:Nat) (a:Int) (b:List Int):Option (Bool):=
  cond (decide (14<(b.length:Int))) (some true) (cond (decide (5<a)) (some (decide (a≤10))) (some false))


def qed (n:Nat) (a:Int) (b:Int) (d:List Int) (c:List Int) (e:Int):Option ((List Int)):=
  (get c a).bind fun x6=>(get (c.set a.toNat b) b).bind fun x14=>some ((c.set a.toNat b).set b.toNat a)


def qee (n:Nat) (a:Int) (h:Int) (g:Int) (b:List Int) (d:List Int) (e:List Int) (c:List Int) (f:Int):Option ((List Int)×(List Int)×(List Int)):=
  (get b a).bind fun x11=>cond (decide (x11<0)) ((get d a).bind fun x18=>(get b a).bind fun x25=>some ((b.set a.toNat g),(d.set a.toNat h),c)) ((get b a).bind fun x34=>(F.qed n x34 h e c f).bind fun y41=>(get b a).bind fun x46=>some ((b.set a.toNat g),d,y41))

def qfh (n:Nat) (b:Int) (k:List Int) (a:List Int) (c:List Int) (d:List Int) (e:Int) (j:Int) (f:Int) (g:Int) (h:Int) (i:Int):Option ((Int×(List Int)×(List Int)×(List Int)×(List Int))⊕((Int×(List Int)×(List Int)×(List Int)×(List Int)))):=
  (chk (j-1)).bind fun z631=>(chk (4*b)).bind fun z633=>(chk (z633+f)).bind fun z635=>(chk (4*b)).bind fun z637=>(chk (z637+i)).bind fun z639=>(F.qee n z631 z635 z639 d c (a++([e]:List Int)) k 0).bind fun y641=>(chk (4*b)).bind fun z645=>(chk (z645+g)).bind fun z647=>(chk (4*b)).bind fun z649=>(chk (z649+h)).bind fun z651=>(F.qee n j z647 z651 y641.1 y641.2.1 (a++([e]:List Int)) y641.2.2 0).bind fun y653=>(chk (b+1)).bind fun z656=>some (.inl (z656,y653.2.2,(a++([e]:List Int)),y653.2.1,y653.1))

def qef (n:Nat) (f:Int) (e:List Int) (a:List Int) (b:List Int) (c:List Int) (x570:Int) (d:Int) (g:Bool):Option ((Int×(List Int)×(List Int)×(List Int)×(List Int))⊕((Int×(List Int)×(List Int)×(List Int)×(List Int)))):=
  (lim (a.length+([d]:List Int).length)).bind fun u589=>(chk (d+1)).bind fun z600=>(nz 2).bind fun u602=>(chk (Int.tdiv z600 2)).bind fun z604=>(get ([(0,(1,(2,3))),(3,(0,(1,2)))]:List (Int×(Int×(Int×Int)))) z604).bind fun x606=>(F.qct n x570).bind fun y612=>F.qfh n f e a b c d y612 x606.1 x606.2.1 x606.2.2.1 x606.2.2.2

def qda (n:Nat) (g:List Int) (f:List Int) (e:List Int) (c:List Int):Int×(List Int)×Int→Option ((Int×(List Int)×Int)⊕((Int×(List Int)×Int)))
  | (a,d,b)=>cond (decide (a<(g.length:Int))) ((get c a).bind fun x675=>cond (decide (x675<0)) ((chk (b+1)).bind fun z682=>(chk (a+1)).bind fun z685=>some (.inl (z685,d,z682))) ((get c a).bind fun x689=>(get e a).bind fun x696=>(F.qed n x689 x696 f d b).bind fun y703=>(chk (a+1)).bind fun z707=>some (.inl (z707,y703,b)))) (some (.inr (a,d,b)))

def qdb (n:Nat) (f:List Int):Int×(List Int)×(List Int)×(List Int)×(List Int)→Option ((Int×(List Int)×(List Int)×(List Int)×(List Int))⊕((Int×(List Int)×(List Int)×(List Int)×(List Int))))
  | (d,e,c,a,b)=>cond (decide (d<(f.length:Int))) ((get f d).bind fun x570=>cond (decide (x570<0)) (F.qef n d e c a b x570 (-1) (decide (x570<0))) (F.qef n d e c a b x570 1 (decide (x570<0)))) (some (.inr (d,e,c,a,b)))

def qde (n:Nat) (d:List Int):Int×(List Int)×(List Int)→Option ((Int×(List Int)×(List Int))⊕((Int×(List Int)×(List Int))))
  | (a,b,c)=>cond (decide (a<(d.length:Int))) ((get b a).bind fun x529=>(get c a).bind fun x537=>(chk (a+1)).bind fun z545=>some (.inl (z545,(b.set a.toNat (-1)),(c.set a.toNat (-1))))) (some (.inr (a,b,c)))

def qgp (n:Nat) (k:List Int) (z33:Int) (a:List Int) (h:List Int):Option ((List Int)×(List Int)×Int×Int):=
  ((loopN n (F.qde n a) (0,a,h)).bind fun o515=>match o515 with
    | (m,c,d)=>((loopN n (F.qdb n k) (0,(List.replicate z33.toNat (0:Int)),([]:List Int),c,d)).bind fun o558=>match o558 with
    | (o,i,b,e,f)=>((loopN n (F.qda n a b e f) (0,i,0)).bind fun o662=>match o662 with
    | (l,j,g)=>some (b,j,g,0))))

def qew (n:Nat) (a:Int) (b:List Int):Option ((List Int)×(List Int)×Int×Int):=
  (F.qfc n a b).bind fun y11=>cond (!y11) (some ([],[],0,1)) (cond (decide (64<(b.length:Int))) (some ([],[],0,5)) ((chk (4*(b.length:Int))).bind fun z33=>(pos z33).bind fun u35=>(pos a).bind fun u51=>(pos a).bind fun u59=>F.qgp n b z33 (List.replicate a.toNat (0:Int)) (List.replicate a.toNat (0:Int))))


def qdc (n:Nat) (b:List Int) (c:List Int) (d:Int) (a:Int):Option (Bool):=
  (nz 4).bind fun u9=>cond (decide ((Int.tmod a 4)=1)) ((nz 4).bind fun u14=>(chk (Int.tdiv a 4)).bind fun z16=>(get b z16).bind fun x18=>some (decide (x18=1))) (cond (decide ((Int.tmod a 4)=2)) (some true) (cond (decide ((Int.tmod a 4)=3)) ((nz 4).bind fun u31=>(chk (Int.tdiv a 4)).bind fun z33=>(get b z33).bind fun x35=>some (decide (x35=(-1)))) (some false)))

def qej (n:Nat) (d:List Int) (e:Int) (x96:Int):(List Int)×Int×(List Int)→Option (((List Int)×Int×(List Int))⊕(((List Int)×Int×(List Int))))
  | (c,b,a)=>cond (decide (b<4)) ((chk (4*x96)).bind fun z125=>(chk (z125+b)).bind fun z127=>(get d z127).bind fun x129=>(nz 4).bind fun u135=>(chk (Int.tdiv x129 4)).bind fun z137=>(get a z137).bind fun x141=>cond (decide (x141<0)) ((get a z137).bind fun x149=>(lim (c.length+([z137]:List Int).length)).bind fun u162=>(chk (b+1)).bind fun z169=>some (.inl ((c++([z137]:List Int)),z169,(a.set z137.toNat e)))) ((chk (b+1)).bind fun z171=>some (.inl (c,z171,a)))) (some (.inr (c,b,a)))

def qcx (n:Nat) (d:List Int) (e:Int):(List Int)×(List Int)→Option (((List Int)×(List Int))⊕(((List Int)×(List Int))))
  | (a,b)=>cond (decide (0<(a.length:Int))) ((get a 0).bind fun x96=>(cut 1 (a.length:Int) a.length).bind fun u103=>((loopN n (F.qej n d e x96) ((a.drop (1:Int).toNat),0,b)).bind fun o112=>match o112 with
    | (f,g,c)=>some (.inl (f,c)))) (some (.inr (a,b)))

def qdf (n:Nat) (e:List Int) (f:List Int):Int×Int×(List Int)→Option ((Int×Int×(List Int))⊕((Int×Int×(List Int))))
  | (c,a,b)=>cond (decide (a<(((List.replicate (e.length:Int).toNat (0:Int))).length:Int))) ((get b a).bind fun x59=>cond (decide (0≤x59)) ((chk (a+1)).bind fun z66=>some (.inl (c,z66,b))) ((get b a).bind fun x69=>((loopN n (F.qcx n f c) (([a]:List Int),(b.set a.toNat c))).bind fun o85=>match o85 with
    | (g,d)=>(chk (c+1)).bind fun z177=>(chk (a+1)).bind fun z179=>some (.inl (z177,z179,d))))) (some (.inr (c,a,b)))

def qeg (n:Nat) (c:List Int):Int×(List Int)→Option ((Int×(List Int))⊕((Int×(List Int))))
  | (a,b)=>cond (decide (a<(((List.replicate (c.length:Int).toNat (0:Int))).length:Int))) ((get b a).bind fun x31=>(chk (a+1)).bind fun z38=>some (.inl (z38,(b.set a.toNat (-1))))) (some (.inr (a,b)))

def qgw (n:Nat) (a:List Int) (d:List Int) (f:Int):Option ((List Int)×Int):=
  (pos (a.length:Int)).bind fun u8=>((loopN n (F.qeg n a) (0,(List.replicate (a.length:Int).toNat (0:Int)))).bind fun o19=>match o19 with
    | (g,b)=>((loopN n (F.qdf n a d) (0,0,b)).bind fun o45=>match o45 with
    | (e,h,c)=>some (c,e)))


def qeo (n:Nat) (a:Int) (b:Int):Option (Int):=
  cond (decide (a<0)) (some (-1)) ((nz 4).bind fun u7=>(chk (a-(Int.tmod a 4))).bind fun z9=>(nz 4).bind fun u11=>(nz 4).bind fun u13=>(chk ((Int.tmod a 4)+(Int.tmod b 4))).bind fun z15=>(chk (z15+4)).bind fun z17=>(nz 4).bind fun u19=>(chk (z9+(Int.tmod z17 4))).bind fun z21=>some z21)

def qcm (n:Nat) (c:List Int):Int×(List Bool)→Option ((Int×(List Bool))⊕((Int×(List Bool))))
  | (a,b)=>(get b a).bind fun x138=>cond (!x138) ((get b a).bind fun x146=>(get c a).bind fun x153=>(F.qeo n x153 (-1)).bind fun y159=>some (.inl (y159,(b.set a.toNat true)))) (some (.inr (a,b)))

def qcp (n:Nat) (y8:(List Int)×Int) (b:List Int):Int→Option ((Int)⊕((Int)⊕(Bool)))
  | a=>cond (decide (a<(((List.replicate y8.2.toNat (0:Int))).length:Int))) ((get b a).bind fun x183=>cond (!(decide (x183=2))) (some (.inr (.inr false))) ((chk (a+1)).bind fun z192=>some (.inl z192))) (some (.inr (.inl a)))

def qco (n:Nat) (d:List Int) (y8:(List Int)×Int):Int×(List Int)×(List Bool)→Option ((Int×(List Int)×(List Bool))⊕((Int×(List Int)×(List Bool))))
  | (a,b,c)=>cond (decide (a<(d.length:Int))) ((get c a).bind fun x92=>cond x92 ((chk (a+1)).bind fun z99=>some (.inl (z99,b,c))) ((nz 4).bind fun u102=>(chk (Int.tdiv a 4)).bind fun z104=>(get y8.1 z104).bind fun x106=>(get b x106).bind fun x112=>(chk (x112+1)).bind fun z118=>(get b x106).bind fun x120=>((loopN n (F.qcm n d) (a,c)).bind fun o129=>match o129 with
    | (f,e)=>(chk (a+1)).bind fun z165=>some (.inl (z165,(b.set x106.toNat z118),e))))) (some (.inr (a,b,c)))

def qcn (n:Nat) (y8:(List Int)×Int):Int×(List Int)→Option ((Int×(List Int))⊕((Int×(List Int))))
  | (b,a)=>cond (decide (b<(y8.1.length:Int))) ((get y8.1 b).bind fun x42=>(get a x42).bind fun x48=>(chk (x48-1)).bind fun z54=>(get a x42).bind fun x56=>(chk (b+1)).bind fun z63=>some (.inl (z63,(a.set x42.toNat z54)))) (some (.inr (b,a)))

def qcq (n:Nat) (d:List Int) (a:List Int) (e:Int):Option (Bool):=
  (F.qgw n d a e).bind fun y8=>(pos y8.2).bind fun u19=>((loopN n (F.qcn n y8) (0,(List.replicate y8.2.toNat (0:Int)))).bind fun o30=>match o30 with
    | (g,b)=>(pos (a.length:Int)).bind fun u68=>((loopN n (F.qco n a y8) (0,b,(List.replicate (a.length:Int).toNat false))).bind fun o78=>match o78 with
    | (h,c,f)=>((loopN n (F.qcp n y8 c) 0).bind fun o171=>match o171 with
    | (.inl i)=>some true
    | (.inr q)=>some q)))

def qcy (n:Nat) (c:List Int) (b:List Int) (d:Int):Int→Option ((Int)⊕((Int)⊕(Bool)))
  | a=>cond (decide (a<(b.length:Int))) ((get b a).bind fun x65=>cond (decide (x65<0)) (some (.inr (.inr false))) ((chk (4*(c.length:Int))).bind fun z75=>cond (decide (z75≤x65)) (some (.inr (.inr false))) (cond (decide (x65=a)) (some (.inr (.inr false))) ((get b x65).bind fun x81=>cond (!(decide (x81=a))) (some (.inr (.inr false))) ((F.qdc n c b d a).bind fun y93=>(F.qdc n c b d x65).bind fun y96=>cond (y93 == y96) (some (.inr (.inr false))) ((chk (a+1)).bind fun z101=>some (.inl z101))))))) (some (.inr (.inl a)))

def qck (n:Nat) (b:List Int):Int→Option ((Int)⊕((Int)⊕(Bool)))
  | a=>cond (decide (a<(b.length:Int))) ((get b a).bind fun x35=>cond (!(decide (x35=1))) (cond (!(decide (x35=(-1)))) (some (.inr (.inr false))) ((chk (a+1)).bind fun z45=>some (.inl z45))) ((chk (a+1)).bind fun z47=>some (.inl z47))) (some (.inr (.inl a)))

def qfq (n:Nat) (a:List Int) (c:List Int) (b:Int):Option (Bool):=
  cond (decide (64<(a.length:Int))) (some false) ((chk (4*(a.length:Int))).bind fun z12=>cond (!(decide ((c.length:Int)=z12))) (some false) (cond (decide (b<0)) (some false) (cond (decide (64<b)) (some false) (((loopN n (F.qck n a) 0).bind fun o23=>match o23 with
    | (.inl d)=>((loopN n (F.qcy n a c b) 0).bind fun o53=>match o53 with
    | (.inl e)=>(F.qcq n a c b).bind fun y106=>some y106
    | (.inr q)=>some q)
    | (.inr q)=>some q)))))


def qbb:Nat→Int→(List Int)→Option (Int×(List Int))
  | 0,_,_=>none
  | n+1,b,a=>(get a b).bind fun x7=>cond (!(decide (x7=b))) ((get a b).bind fun x16=>((qbb n) x16 a).bind fun y26=>(get y26.2 b).bind fun x31=>(get (y26.2.set b.toNat y26.1) b).bind fun x40=>some (x40,(y26.2.set b.toNat y26.1))) ((get a b).bind fun x47=>some (x47,a))

def qec (n:Nat) (e:List Int):Int×(List Int)×(List (Int×Int))×(List Int)→Option ((Int×(List Int)×(List (Int×Int))×(List Int))⊕((Int×(List Int)×(List (Int×Int))×(List Int))))
  | (b,d,a,c)=>cond (decide (b<(((List.replicate (e.length:Int).toNat (0:Int))).length:Int))) ((F.qbb n b d).bind fun y169=>(chk ((imget a y169.1).getD 0)).bind fun z175=>cond (!(imget a y169.1).isSome) ((chk (a.length:Int)).bind fun z180=>(nok (imget a y169.1)).bind fun u182=>(chk ((imget (a++[(y169.1,z180)]) y169.1).getD 0)).bind fun z185=>(get c b).bind fun x187=>(chk (b+1)).bind fun z194=>some (.inl (z194,y169.2,(a++[(y169.1,z180)]),(c.set b.toNat z185)))) ((chk ((imget a y169.1).getD 0)).bind fun z196=>(get c b).bind fun x198=>(chk (b+1)).bind fun z205=>some (.inl (z205,y169.2,a,(c.set b.toNat z196))))) (some (.inr (b,d,a,c)))

def qea (n:Nat) (c:List Int):Int×(List Int)→Option ((Int×(List Int))⊕((Int×(List Int))))
  | (a,b)=>cond (decide (a<(c.length:Int))) ((chk (4*a)).bind fun z111=>(chk (z111+1)).bind fun z113=>(F.qbb n z113 b).bind fun y115=>(chk (4*a)).bind fun z120=>(chk (z120+3)).bind fun z122=>(F.qbb n z122 y115.2).bind fun y124=>(get y124.2 y115.1).bind fun x129=>(chk (a+1)).bind fun z136=>some (.inl (z136,(y124.2.set y115.1.toNat y124.1)))) (some (.inr (a,b)))

def qeb (n:Nat) (c:List Int):Int×(List Int)→Option ((Int×(List Int))⊕((Int×(List Int))))
  | (a,b)=>cond (decide (a<(c.length:Int))) ((get c a).bind fun x66=>(F.qbb n a b).bind fun y74=>(F.qbb n x66 y74.2).bind fun y79=>(get y79.2 y74.1).bind fun x84=>(chk (a+1)).bind fun z91=>some (.inl (z91,(y79.2.set y74.1.toNat y79.1)))) (some (.inr (a,b)))

def qcr (n:Nat) (c:List Int):Int×(List Int)→Option ((Int×(List Int))⊕((Int×(List Int))))
  | (a,b)=>cond (decide (a<(((List.replicate (c.length:Int).toNat (0:Int))).length:Int))) ((get b a).bind fun x35=>(chk (a+1)).bind fun z42=>some (.inl (z42,(b.set a.toNat a)))) (some (.inr (a,b)))

def qgn (n:Nat) (g:List Int) (a:List Int) (i:Int):Option ((List Int)×Int):=
  (pos (a.length:Int)).bind fun u8=>((loopN n (F.qcr n a) (0,(List.replicate (a.length:Int).toNat (0:Int)))).bind fun o23=>match o23 with
    | (j,d)=>((loopN n (F.qeb n a) (0,d)).bind fun o54=>match o54 with
    | (k,e)=>((loopN n (F.qea n g) (0,e)).bind fun o97=>match o97 with
    | (l,f)=>(pos (a.length:Int)).bind fun u145=>((loopN n (F.qec n a) (0,f,([]:List (Int×Int)),(List.replicate (a.length:Int).toNat (0:Int)))).bind fun o156=>match o156 with
    | (m,h,b,c)=>(chk (b.length:Int)).bind fun z210=>some (c,z210)))))


def qeq (n:Nat) (d:Int) (a:List Int) (b:List Int) (c:Int):Option (Bool):=
  (F.qdc n a b c d).bind fun y6=>some y6


def qgq (n:Nat) (a:Int):Option (Int):=
  (F.qeo n a 2).bind fun y3=>some y3


def qdg (n:Nat) (b:Int) (c:List Int) (a:List Int) (d:Int):Option (Int):=
  (get a b).bind fun x6=>(F.qgq n x6).bind fun y12=>some y12

def qbg (n:Nat) (f:Int) (b:List Int) (c:List Int) (d:Int):(List Int)×Int→Option (((List Int)×Int)⊕(((List Int)×Int)))
  | (e,a)=>cond (!(decide (a=f))) ((lim (e.length+([a]:List Int).length)).bind fun u35=>(F.qdg n a b c d).bind fun y42=>some (.inl ((e++([a]:List Int)),y42))) (some (.inr (e,a)))

def qbo (n:Nat) (d:Int) (a:List Int) (b:List Int) (c:Int):Option ((List Int)):=
  (F.qdg n d a b c).bind fun y14=>((loopN n (F.qbg n d a b c) (([d]:List Int),y14)).bind fun o18=>match o18 with
    | (e,f)=>some e)

def qav (n:Nat) (y49:(List Int)):Int×(List Bool)→Option ((Int×(List Bool))⊕((Int×(List Bool))))
  | (a,b)=>cond (decide (a<(y49.length:Int))) ((get y49 a).bind fun x72=>(get b x72).bind fun x78=>(chk (a+1)).bind fun z85=>some (.inl (z85,(b.set x72.toNat true)))) (some (.inr (a,b)))

def qaw (n:Nat) (g:Int) (b:List Int) (c:List Int) (d:Int):(List (List Int))×Int×(List Bool)→Option (((List (List Int))×Int×(List Bool))⊕(((List (List Int))×Int×(List Bool))))
  | (f,a,e)=>cond (decide (a<g)) ((get e a).bind fun x32=>cond x32 ((chk (a+1)).bind fun z39=>some (.inl (f,z39,e))) ((F.qeq n a b c d).bind fun y41=>cond (!y41) ((chk (a+1)).bind fun z45=>some (.inl (f,z45,e))) ((F.qbo n a b c d).bind fun y49=>((loopN n (F.qav n y49) (0,e)).bind fun o60=>match o60 with
    | (i,h)=>(lim (f.length+([y49]:List (List Int)).length)).bind fun u95=>(chk (a+1)).bind fun z102=>some (.inl ((f++([y49]:List (List Int))),z102,h)))))) (some (.inr (f,a,e)))

def qbc (n:Nat) (a:Int) (b:List Int) (c:List Int) (d:Int):Option ((List (List Int))):=
  (pos a).bind fun u7=>((loopN n (F.qaw n a b c d) (([]:List (List Int)),0,(List.replicate a.toNat false))).bind fun o18=>match o18 with
    | (e,g,f)=>some e)


def qfu (n:Nat) (b:List Int) (a:List Int) (c:Int):Option ((List (List Int))):=
  (F.qfq n b a c).bind fun y9=>cond (!y9) (some ([])) ((F.qbc n (a.length:Int) b a c).bind fun y17=>some y17)

def qdx (n:Nat) (y21:(List Int)×Int) (c:Int) (x76:List Int):Int×(List Int)→Option ((Int×(List Int))⊕((Int×(List Int))))
  | (a,b)=>cond (decide (a<(x76.length:Int))) ((get x76 a).bind fun x100=>(get y21.1 x100).bind fun x108=>(get b x108).bind fun x115=>(chk (a+1)).bind fun z123=>some (.inl (z123,(b.set x108.toNat c)))) (some (.inr (a,b)))

def qca (n:Nat) (c:List Int) (y21:(List Int)×Int):Int×(List (List Int))→Option ((Int×(List (List Int)))⊕((Int×(List (List Int)))))
  | (b,a)=>cond (decide (b<(c.length:Int))) ((get c b).bind fun x175=>(chk (4*b)).bind fun z184=>(get y21.1 z184).bind fun x186=>(chk (x186+1)).bind fun z193=>(chk (4*b)).bind fun z195=>(chk (z195+2)).bind fun z197=>(get y21.1 z197).bind fun x199=>(chk (x199+1)).bind fun z206=>(chk (4*b)).bind fun z208=>(chk (z208+1)).bind fun z210=>(get y21.1 z210).bind fun x212=>(chk (x212+1)).bind fun z219=>cond (decide (0<x175)) ((chk (-z206)).bind fun z226=>(chk (-z219)).bind fun z228=>(lim (([]:List Int).length+([z226,z228,z193,z219]:List Int).length)).bind fun u237=>(F.qfx n (([]:List Int)++([z226,z228,z193,z219]:List Int))).bind fun y247=>(lim (a.length+([y247]:List (List Int)).length)).bind fun u262=>(chk (b+1)).bind fun z270=>some (.inl (z270,(a++([y247]:List (List Int)))))) ((chk (-z206)).bind fun z272=>(chk (-z219)).bind fun z274=>(lim (([]:List Int).length+([z272,z219,z193,z274]:List Int).length)).bind fun u283=>(F.qfx n (([]:List Int)++([z272,z219,z193,z274]:List Int))).bind fun y293=>(lim (a.length+([y293]:List (List Int)).length)).bind fun u308=>(chk (b+1)).bind fun z316=>some (.inl (z316,(a++([y293]:List (List Int))))))) (some (.inr (b,a)))

def qdu (n:Nat) (c:Int) (y21:(List Int)×Int) (y53:(List (List Int))):Int×(List Int)→Option ((Int×(List Int))⊕((Int×(List Int))))
  | (a,b)=>cond (decide (a<c)) ((chk (y21.2+a)).bind fun z145=>(chk ((y53.length:Int)+a)).bind fun z147=>(get b z145).bind fun x149=>(chk (a+1)).bind fun z156=>some (.inl (z156,(b.set z145.toNat z147)))) (some (.inr (a,b)))

def qds (n:Nat) (y21:(List Int)×Int) (y53:(List (List Int))):Int×(List Int)→Option ((Int×(List Int))⊕((Int×(List Int))))
  | (a,b)=>cond (decide (a<(y53.length:Int))) ((get y53 a).bind fun x76=>((loopN n (F.qdx n y21 a x76) (0,b)).bind fun o88=>match o88 with
    | (d,c)=>(chk (a+1)).bind fun z127=>some (.inl (z127,c)))) (some (.inr (a,b)))

def qgk (n:Nat) (b:List Int) (c:List Int) (a:Int):Option (Int×(List Int)×(List (List Int))×Int):=
  (F.qfq n b c a).bind fun y12=>cond (!y12) (some (0,[],[],1)) ((F.qgn n b c a).bind fun y21=>(chk (y21.2+a)).bind fun z35=>(chk (y21.2+a)).bind fun z37=>(pos z37).bind fun u39=>(F.qfu n b c a).bind fun y53=>((loopN n (F.qds n y21 y53) (0,(List.replicate z37.toNat (0:Int)))).bind fun o64=>match o64 with
    | (g,e)=>((loopN n (F.qdu n a y21 y53) (0,e)).bind fun o133=>match o133 with
    | (h,f)=>((loopN n (F.qca n b y21) (0,([]:List (List Int)))).bind fun o163=>match o163 with
    | (i,d)=>some (z35,f,d,0)))))

def qch (n:Nat) (c:Int) (b:List (List Int)):Int→Option ((Int)⊕((Int)⊕(Bool)))
  | a=>cond (decide (a<(b.length:Int))) ((get b a).bind fun x59=>(F.qgo n x59 c).bind fun y71=>cond (!y71) (some (.inr (.inr false))) ((chk (a+1)).bind fun z76=>some (.inl z76))) (some (.inr (.inl a)))

def qdk (n:Nat) (c:Int) (b:List Int):Int→Option ((Int)⊕((Int)⊕(Bool)))
  | a=>cond (decide (a<(b.length:Int))) ((get b a).bind fun x30=>cond (decide (x30<0)) (some (.inr (.inr false))) (cond (decide (c≤x30)) (some (.inr (.inr false))) ((chk (a+1)).bind fun z41=>some (.inl z41)))) (some (.inr (.inl a)))

def qdv (n:Nat) (a:Int) (b:List Int) (c:List (List Int)):Option (Bool):=
  cond (decide (a<0)) (some false) (cond (decide (1000<a)) (some false) (cond (!(decide ((b.length:Int)=a))) (some false) (((loopN n (F.qdk n a b) 0).bind fun o18=>match o18 with
    | (.inl d)=>((loopN n (F.qch n a c) 0).bind fun o47=>match o47 with
    | (.inl e)=>some true
    | (.inr q)=>some q)
    | (.inr q)=>some q))))



def qgg (n:Nat) (a:List Int):Option ((List Int)):=
  (lim (([]:List Int).length+a.length)).bind fun u16=>some (([]:List Int)++a)


def qgz (n:Nat) (b:List Int) (c:Int):Int→Option ((Int)⊕((Int)))
  | a=>(get b a).bind fun x59=>(get b c).bind fun x66=>cond (decide (x59<x66)) ((chk (a-1)).bind fun z74=>some (.inl z74)) (some (.inr a))

def perm_advance_b0 (n:Nat) (b:List Int):Int→Option ((Int)⊕((Int)))
  | a=>cond (decide (0≤a)) ((get b a).bind fun x19=>(chk (a+1)).bind fun z26=>(get b z26).bind fun x28=>cond (decide (x28<x19)) ((chk (a-1)).bind fun z36=>some (.inl z36)) (some (.inr a))) (some (.inr a))

def perm_advance (n:Nat) (b:List Int):Option (Bool×(List Int)):=
  (chk ((b.length:Int)-2)).bind fun z4=>((loopN n (F.perm_advance_b0 n b) z4).bind fun o7=>match o7 with
    | a=>cond (decide (a<0)) (some (false,b)) ((chk ((b.length:Int)-1)).bind fun z45=>((loopN n (F.qgz n b a) z45).bind fun o48=>match o48 with
    | c=>(get b c).bind fun x81=>(get b a).bind fun x88=>(get b a).bind fun x95=>(get (b.set a.toNat x81) c).bind fun x103=>(chk (a+1)).bind fun z112=>(cut z112 (((b.set a.toNat x81).set c.toNat x88).length:Int) ((b.set a.toNat x81).set c.toNat x88).length).bind fun u114=>some (true,(((b.set a.toNat x81).set c.toNat x88).take z112.toNat++(((b.set a.toNat x81).set c.toNat x88).drop z112.toNat).reverse)))))

def qhd {Sg Xg:Type} (step:List Int→Sg→Option (Sg⊕Xg)) (n:Nat):Sg×Bool×(List Int)→Option ((Sg×Bool×(List Int))⊕((Sg×Bool×(List Int))⊕(Sg⊕Xg)))
  | (c,b,a)=>cond b ((F.qgg n a).bind fun y54=>((step y54 c).bind fun o63=>Sum.elim (fun s72=>(F.perm_advance n a).bind fun y77=>some (.inl (s72,y77.1,y77.2))) (fun s75=>some (.inr (.inr (.inr s75)))) o63)) (some (.inr (.inl (c,b,a))))

def perm_All_c1_b0 {Sg Xg:Type} (step:List Int→Sg→Option (Sg⊕Xg)) (n:Nat) (c:Int):Sg×Int×(List Int)→Option ((Sg×Int×(List Int))⊕((Sg×Int×(List Int))))
  | (d,a,b)=>cond (decide (a<(((List.replicate c.toNat (0:Int))).length:Int))) ((get b a).bind fun x30=>(chk (a+1)).bind fun z37=>some (.inl (d,z37,(b.set a.toNat a)))) (some (.inr (d,a,b)))

def perm_All_c1 {Sg Xg:Type} (step:List Int→Sg→Option (Sg⊕Xg)) (n:Nat) (sg:Sg) (a:Int):Option (Sg⊕Xg):=
  cond (decide (a<0)) (some (.inl sg)) (cond (decide (8<a)) (some (.inl sg)) ((pos a).bind fun u7=>((loopN n (F.perm_All_c1_b0 step n a) (sg,0,(List.replicate a.toNat (0:Int)))).bind fun o18=>match o18 with
    | (c,f,b)=>((loopN n (F.qhd step n) (c,true,b)).bind fun o42=>match o42 with
    | (.inl (d,g,e))=>some (.inl d)
    | (.inr q)=>some q))))


def qgm (n:Nat) (a:List Int) (b:List Int):Option (Int):=
  (chk ((b.length:Int)-(a.length:Int))).bind fun z5=>some z5

def qbw (n:Nat) (a:List (List Int)):Option (List (List Int)):=if (a.all fun x=>a.all fun y=>(qgm n x y).isSome)=true∧swoL (fun x y:(List Int)=>(qgm n x y).getD 0) a=true∧a.length≤1099511627776 then some (sortL (fun x y:(List Int)=>(qgm n x y).getD 0) a) else none

def perm_Type_b0 (n:Nat) (y4:(List (List Int))) (y14:List (List Int)):(List Int)×Int→Option (((List Int)×Int)⊕(((List Int)×Int)))
  | (b,a)=>cond (decide (a<(y4.length:Int))) ((get y14 a).bind fun x34=>(lim (b.length+([(x34.length:Int)]:List Int).length)).bind fun u51=>(chk (a+1)).bind fun z58=>some (.inl ((b++([(x34.length:Int)]:List Int)),z58))) (some (.inr (b,a)))

def perm_Type (n:Nat) (b:List Int):Option ((List Int)):=
  (F.qfz n b).bind fun y4=>(F.qbw n y4).bind fun y14=>((loopN n (F.perm_Type_b0 n y4 y14) (([]:List Int),0)).bind fun o22=>match o22 with
    | (a,c)=>some a)

def qfj (n:Nat) (b:List Int) (c:List Int):Int→Option ((Int)⊕((Int)⊕(Bool)))
  | a=>cond (decide (a<(b.length:Int))) ((get b a).bind fun x25=>(get c a).bind fun x32=>cond (!(decide (x25=x32))) (some (.inr (.inr false))) ((chk (a+1)).bind fun z41=>some (.inl z41))) (some (.inr (.inl a)))

def qgc (n:Nat) (a:List Int) (b:List Int):Option (Bool):=
  cond (!(decide ((a.length:Int)=(b.length:Int)))) (some false) (((loopN n (F.qfj n a b) 0).bind fun o10=>match o10 with
    | (.inl c)=>some true
    | (.inr q)=>some q))

def perm_Class_b1 (n:Nat) (b:List Int):List Int→(List (List Int))→Option (((List (List Int)))⊕((List (List Int))))
  | c,a=>(F.perm_Type n c).bind fun y106=>(F.qgc n y106 b).bind fun y115=>cond y115 ((lim (a.length+([c]:List (List Int)).length)).bind fun u125=>some (.inl (a++([c]:List (List Int))))) (some (.inl a))

def qgt (n:Nat) (b:List Int):Int×Int→Option ((Int×Int)⊕((Int×Int)⊕((List (List Int))×Int)))
  | (c,a)=>cond (decide (a<(b.length:Int))) ((get b a).bind fun x32=>cond (decide (x32<1)) (some (.inr (.inr ([],1)))) (cond (decide (c<x32)) (some (.inr (.inr ([],1)))) (cond (decide (0<a)) ((chk (a-1)).bind fun z51=>(get b z51).bind fun x53=>cond (decide (x53<x32)) (some (.inr (.inr ([],1)))) ((chk (c-x32)).bind fun z64=>(chk (a+1)).bind fun z66=>some (.inl (z64,z66)))) ((chk (c-x32)).bind fun z69=>(chk (a+1)).bind fun z71=>some (.inl (z69,z71)))))) (some (.inr (.inl (c,a))))

def qfa (n:Nat) (b:Int) (a:List Int):Option ((List (List Int))×Int):=
  cond (decide (b<1)) (some ([],2)) (cond (decide (8<b)) (some ([],2)) (((loopN n (F.qgt n a) (b,0)).bind fun o20=>match o20 with
    | (.inl (d,e))=>cond (!(decide (d=0))) (some ([],1)) (((F.perm_All_c1 ((F.perm_Class_b1 n a):List Int→(List (List Int))→Option (((List (List Int)))⊕((List (List Int))))) n ([]:List (List Int)) b).bind fun o91=>match lr o91 with
    | c=>some (c,0)))
    | (.inr q)=>some q)))

def qcj (n:Nat) (x31:List Int):Int×Int→Option ((Int×Int)⊕((Int×Int)))
  | (b,a)=>cond (decide (a<(x31.length:Int))) ((get x31 a).bind fun x57=>(chk (-x57)).bind fun z63=>(chk (a+1)).bind fun z65=>some (.inl ((max (max b x57) z63),z65))) (some (.inr (b,a)))

def qcc (n:Nat) (c:List (List Int)):Int×(List (List (List Int)))→Option ((Int×(List (List (List Int))))⊕((Int×(List (List (List Int))))))
  | (b,a)=>cond (decide (b<(c.length:Int))) ((get c b).bind fun x31=>((loopN n (F.qcj n x31) (0,0)).bind fun o45=>match o45 with
    | (d,e)=>cond (decide (0<d)) ((chk (d-1)).bind fun z71=>(get a z71).bind fun x73=>(lim (x73.length+([x31]:List (List Int)).length)).bind fun u93=>(get a z71).bind fun x100=>(chk (b+1)).bind fun z110=>some (.inl (z110,(a.set z71.toNat (x73++([x31]:List (List Int))))))) ((chk (b+1)).bind fun z112=>some (.inl (z112,a))))) (some (.inr (b,a)))

def qfr (n:Nat) (a:Int) (d:List Int) (c:List (List Int)):Option ((List (List (List Int)))):=
  (pos a).bind fun u8=>((loopN n (F.qcc n c) (0,(List.replicate a.toNat ([]:List (List Int))))).bind fun o19=>match o19 with
    | (e,b)=>some b)

def qcz (n:Nat) (c:Int):Int×(List Int)→Option ((Int×(List Int))⊕((Int×(List Int))))
  | (a,b)=>cond (decide (a<(((List.replicate c.toNat (0:Int))).length:Int))) ((get b a).bind fun x25=>(chk (a+1)).bind fun z32=>some (.inl (z32,(b.set a.toNat a)))) (some (.inr (a,b)))

def qfp (n:Nat) (a:Int):Option ((List Int)):=
  (pos a).bind fun u3=>((loopN n (F.qcz n a) (0,(List.replicate a.toNat (0:Int)))).bind fun o13=>match o13 with
    | (c,b)=>some b)


def homs_Count_c1 (n:Nat) (b:List (List Int)) (a:Int):Option (Bool×Int):=
  (chk (a+1)).bind fun z5=>some (true,z5)

def qet (n:Nat) (c:List Int):Int×(List Int)→Option ((Int×(List Int))⊕((Int×(List Int))))
  | (a,b)=>cond (decide (a<(c.length:Int))) ((get c a).bind fun x35=>(get b x35).bind fun x41=>(chk (a+1)).bind fun z48=>some (.inl (z48,(b.set x35.toNat a)))) (some (.inr (a,b)))

def qgj (n:Nat) (a:List Int):Option ((List Int)):=
  (F.qgs n a).bind fun y5=>cond (!y5) (some ([])) ((pos (a.length:Int)).bind fun u12=>((loopN n (F.qet n a) (0,(List.replicate (a.length:Int).toNat (0:Int)))).bind fun o23=>match o23 with
    | (c,b)=>some b))

def qbk (n:Nat) (c:List Int) (d:List Int):Int×(List Int)→Option ((Int×(List Int))⊕((Int×(List Int))))
  | (a,b)=>cond (decide (a<(c.length:Int))) ((get b a).bind fun x71=>(get d x71).bind fun x77=>(get b a).bind fun x83=>(chk (a+1)).bind fun z90=>some (.inl (z90,(b.set a.toNat x77)))) (some (.inr (a,b)))

def qei (n:Nat) (a:List Int) (b:Int) (c:List Int) (d:List Int) (f:Bool):Option ((Int×(List Int))⊕((Int×(List Int)))):=
  ((loopN n (F.qbk n a d) (0,c)).bind fun o59=>match o59 with
    | (g,e)=>(chk (b+1)).bind fun z94=>some (.inl (z94,e)))

def qdd (n:Nat) (b:List Int) (e:List Int) (f:List (List Int)) (c:List (List Int)):Int×(List Int)→Option ((Int×(List Int))⊕((Int×(List Int))))
  | (a,d)=>cond (decide (a<(e.length:Int))) ((get e a).bind fun x18=>cond (decide (0<x18)) ((chk (x18-1)).bind fun z28=>(get f z28).bind fun x30=>F.qei n b a d x30 (decide (0<x18))) ((chk (-x18)).bind fun z41=>(chk (z41-1)).bind fun z43=>(get c z43).bind fun x45=>F.qei n b a d x45 (decide (0<x18)))) (some (.inr (a,d)))

def qfo (n:Nat) (a:List Int) (d:List Int) (e:List (List Int)) (b:List (List Int)):Option ((List Int)):=
  ((loopN n (F.qdd n a d e b) (0,a)).bind fun o6=>match o6 with
    | (f,c)=>some c)

def qcg (n:Nat) (b:List Int) (c:List Int):Int→Option ((Int)⊕((Int)⊕(Bool)))
  | a=>cond (decide (a<(b.length:Int))) ((get b a).bind fun x25=>(get c a).bind fun x32=>cond (!(decide (x25=x32))) (some (.inr (.inr false))) ((chk (a+1)).bind fun z41=>some (.inl z41))) (some (.inr (.inl a)))

def qcb (n:Nat) (a:List Int) (b:List Int):Option (Bool):=
  cond (!(decide ((a.length:Int)=(b.length:Int)))) (some false) (((loopN n (F.qcg n a b) 0).bind fun o10=>match o10 with
    | (.inl c)=>some true
    | (.inr q)=>some q))

def qfw (self:Int→Int→(List Int)→(List (List Int))→Int→(List (List Int))→(List (List Int))→Int→(List (List Int))→(List (List (List Int)))→(List Int)→(List Int)→Option (Bool×(List (List Int))×(List (List Int))×(List Int)×Int×Int)) (n:Nat) (d:Int) (c:List Int) (f:List (List Int)) (e:List (List Int)) (x44:List Int) (y66:(List Int)) (x94:List (List Int)):Int×(List Int)→Option ((Int×(List Int))⊕((Int×(List Int))⊕(Int×(List Int))))
  | (a,b)=>cond (decide (a<(x94.length:Int))) ((get x94 a).bind fun x117=>(F.qfo n (c.take (min c.length b.length)++b.drop (min c.length b.length)) x117 (f.set d.toNat x44) (e.set d.toNat y66)).bind fun y131=>(F.qcb n y131 c).bind fun y136=>cond (!y136) (some (.inr (.inr (a,y131)))) ((chk (a+1)).bind fun z142=>some (.inl (z142,y131)))) (some (.inr (.inl (a,b))))

def qft (self:Int→Int→(List Int)→(List (List Int))→Int→(List (List Int))→(List (List Int))→Int→(List (List Int))→(List (List (List Int)))→(List Int)→(List Int)→Option (Bool×(List (List Int))×(List (List Int))×(List Int)×Int×Int)) (n:Nat) (a:Int) (l:Int) (m:List Int) (o:List (List Int)) (i:List (List Int)) (j:List (List (List Int))) (k:List Int):Int×Int×(List (List Int))×Int×(List (List Int))×(List Int)→Option ((Int×Int×(List (List Int))×Int×(List (List Int))×(List Int))⊕((Int×Int×(List (List Int))×Int×(List (List Int))×(List Int))⊕(Bool×(List (List Int))×(List (List Int))×(List Int)×Int×Int)))
  | (e,c,d,f,b,g)=>cond (decide (e<(i.length:Int))) ((get i e).bind fun x44=>(chk (f+1)).bind fun z56=>cond (decide (200000<z56)) (some (.inr (.inr (false,d,b,g,c,z56)))) ((F.qgj n x44).bind fun y66=>(get d a).bind fun x75=>(get b a).bind fun x83=>(get j a).bind fun x94=>((loopN n (F.qfw self n a k d b x44 y66 x94) (0,g)).bind fun o105=>match o105 with
    | (.inl (p,h))=>(chk (a+1)).bind fun z147=>(self z147 l m o c (d.set a.toNat x44) i z56 (b.set a.toNat y66) j h k).bind fun y149=>cond (!y149.1) (some (.inr (.inr (false,y149.2.1,y149.2.2.1,y149.2.2.2.1,y149.2.2.2.2.1,y149.2.2.2.2.2)))) ((chk (e+1)).bind fun z156=>some (.inl (z156,y149.2.2.2.2.1,y149.2.1,y149.2.2.2.2.2,y149.2.2.1,y149.2.2.2.1)))
    | (.inr (p,h))=>(chk (e+1)).bind fun z146=>some (.inl (z146,c,(d.set a.toNat x44),z56,(b.set a.toNat y66),h))))) (some (.inr (.inl (e,c,d,f,b,g))))

def qbr:Nat→Int→Int→(List Int)→(List (List Int))→Int→(List (List Int))→(List (List Int))→Int→(List (List Int))→(List (List (List Int)))→(List Int)→(List Int)→Option (Bool×(List (List Int))×(List (List Int))×(List Int)×Int×Int)
  | 0,_,_,_,_,_,_,_,_,_,_,_,_=>none
  | n+1,d,e,l,m,a,b,o,f,g,p,h,r=>cond (decide (d=e)) ((F.homs_Count_c1 n b a).bind fun y25=>some (y25.1,b,g,h,y25.2,f)) (((loopN n (F.qft (qbr n) n d e l m o p r) (0,a,b,f,g,h)).bind fun o32=>match o32 with
    | (.inl (t,i,s,c,j,k))=>some (true,s,j,k,i,c)
    | (.inr q)=>some q))

def qcw (n:Nat) (d:Int) (e:List Int) (f:List (List Int)) (a:Int) (y27:(List (List Int))×Int) (y47:(List (List (List Int)))) (y61:(List Int)) (y70:(List Int)) (b:List (List Int)) (c:List (List Int)):Option (Int×Int):=
  (F.qbr n 0 d e f a b y27.1 0 c y47 y70 y61).bind fun y564=>cond (decide (200000<y564.2.2.2.2.2)) (some (13,y564.2.2.2.2.1)) (some (0,y564.2.2.2.2.1))

def qbp (n:Nat) (b:Int) (d:List Int) (e:List (List Int)) (c:Int) (f:List Int) (a:Int):Option (Int×Int):=
  (F.qdv n b d e).bind fun y14=>cond (!y14) (some (1,a)) (cond (decide (c<1)) (some (2,a)) (cond (decide (5<c)) (some (2,a)) ((F.qfa n c f).bind fun y27=>cond (!(decide (y27.2=0))) (some (1,a)) ((F.qfr n b d e).bind fun y47=>(F.qfp n c).bind fun y61=>(F.qfp n c).bind fun y70=>(pos b).bind fun u90=>(pos b).bind fun u98=>F.qcw n b d e a y27 y47 y61 y70 (List.replicate b.toNat ([]:List Int)) (List.replicate b.toNat ([]:List Int))))))


def qel (n:Nat) (b:Int) (c:List Int) (d:List (List Int)) (e:Int) (a:List Int):Option (Int×Int):=
  (F.qbp n b c d e a 0).bind fun y14=>cond (!(decide (y14.1=0))) (some (0,y14.1)) (some (y14.2,0))

def law35_ArtinHoms_j1 (n:Nat) (y111:Int×Int) (y117:Int×Int) (a:Bool):Option (Bool):=
  cond a (cond (decide (y111.2=y117.2)) (some true) (cond (decide (y111.2=13)) (some true) (some (decide (y117.2=13))))) (some (decide (y111.1=y117.1)))

def law35_ArtinHoms_j0 (n:Nat) (b:Int) (c:List Int) (d:Int) (a:List Int):Option (Bool):=
  (F.qfd n b c).bind fun y37=>(F.qew n b c).bind fun y59=>cond (!(decide (y37.2.2.2=0))) (some (decide (y37.2.2.2=y59.2.2.2))) (cond (!(decide (y59.2.2.2=0))) (some (decide (y37.2.2.2=y59.2.2.2))) ((F.qgk n y59.1 y59.2.1 y59.2.2.1).bind fun y88=>(F.qel n y37.1 y37.2.1 y37.2.2.1 d a).bind fun y111=>(F.qel n y88.1 y88.2.1 y88.2.2.1 d a).bind fun y117=>cond (!(decide (y88.2.2.2=0))) (some false) (cond (!(decide (y111.2=0))) (F.law35_ArtinHoms_j1 n y111 y117 true) (F.law35_ArtinHoms_j1 n y111 y117 (!(decide (y117.2=0)))))))

def law35_ArtinHoms (n:Nat) (b:Int) (c:List Int) (d:Int) (a:List Int):Option (Bool):=
  (F.law35_awake n).bind fun y9=>cond (!y9) (some false) ((F.law35_great n b c).bind fun y16=>cond y16 (some true) (cond (decide (6<(c.length:Int))) (some true) (cond (decide (4<b)) (some true) (cond (decide (4<d)) (some true) (cond (decide (d=4)) (cond (decide (3<b)) (some true) (cond (decide (10<(a.length:Int))) (some true) (F.law35_ArtinHoms_j0 n b c d a))) (cond (decide (10<(a.length:Int))) (some true) (F.law35_ArtinHoms_j0 n b c d a)))))))
