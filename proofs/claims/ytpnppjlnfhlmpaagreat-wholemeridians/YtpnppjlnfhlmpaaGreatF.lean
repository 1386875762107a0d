import Derived.Test.YtpnppjlnfhlmpaaGreatRun
import Derived.Test.YtpnppjlnfhlmpaaGreatShort
import Derived.Test.YtpnppjlnfhlmpaaGreatCall
import Derived.Test.YtpnppjlnfhlmpaaGreatNest
import Derived.Test.YtpnppjlnfhlmpaaGreatRange
import Derived.Test.YtpnppjlnfhlmpaaGreatRev
import Derived.Test.YtpnppjlnfhlmpaaGreatSort
import Derived.Test.YtpnppjlnfhlmpaaGreatIter
import Derived.Test.YtpnppjlnfhlmpaaGreatMap
import Derived.Test.YtpnppjlnfhlmpaaGreatRow
import Derived.Test.YtpnppjlnfhlmpaaGreatCells
import Derived.Test.YtpnppjlnfhlmpaaGreatStr
import Derived.Test.YtpnppjlnfhlmpaaGreatRbox
import Derived.Test.YtpnppjlnfhlmpaaGreatGmp
import Derived.Test.YtpnppjlnfhlmpaaGreatGrg
import Derived.Test.YtpnppjlnfhlmpaaGreatDelP
import Derived.Test.YtpnppjlnfhlmpaaGreatSmp
set_option linter.all false
namespace Go.Proofs.YtpnppjlnfhlmpaaGreat
open Ev
namespace F
noncomputable section

def qeb (n:Nat) (b:List Int) (c:List Int) (d:Int) (a:Int):Option (Bool):=
  (nz 4).bind fun u9=>cond (decide ((Int.tmod a 4)=1)) ((nz 4).bind fun u14=>(chk (Int.tdiv a 4)).bind fun z16=>(get b z16).bind fun x18=>some (decide (x18=1))) (cond (decide ((Int.tmod a 4)=2)) (some true) (cond (decide ((Int.tmod a 4)=3)) ((nz 4).bind fun u31=>(chk (Int.tdiv a 4)).bind fun z33=>(get b z33).bind fun x35=>some (decide (x35=(-1)))) (some false)))

def qfc (n:Nat) (d:List Int) (e:Int) (x96:Int):(List Int)×Int×(List Int)→Option (((List Int)×Int×(List Int))⊕(((List Int)×Int×(List Int))))
  | (c,b,a)=>cond (decide (b<4)) ((chk (4*x96)).bind fun z125=>(chk (z125+b)).bind fun z127=>(get d z127).bind fun x129=>(nz 4).bind fun u135=>(chk (Int.tdiv x129 4)).bind fun z137=>(get a z137).bind fun x141=>cond (decide (x141<0)) ((get a z137).bind fun x149=>(lim (c.length+([z137]:List Int).length)).bind fun u162=>(chk (b+1)).bind fun z169=>some (.inl ((c++([z137]:List Int)),z169,(a.set z137.toNat e)))) ((chk (b+1)).bind fun z171=>some (.inl (c,z171,a)))) (some (.inr (c,b,a)))

def qdz (n:Nat) (d:List Int) (e:Int):(List Int)×(List Int)→Option (((List Int)×(List Int))⊕(((List Int)×(List Int))))
  | (a,b)=>cond (decide (0<(a.length:Int))) ((get a 0).bind fun x96=>(cut 1 (a.length:Int) a.length).bind fun u103=>((loopN n (F.qfc n d e x96) ((a.drop (1:Int).toNat),0,b)).bind fun o112=>match o112 with
    | (f,g,c)=>some (.inl (f,c)))) (some (.inr (a,b)))

def qfd (n:Nat) (e:List Int) (f:List Int):Int×Int×(List Int)→Option ((Int×Int×(List Int))⊕((Int×Int×(List Int))))
  | (c,a,b)=>cond (decide (a<(((List.replicate (e.length:Int).toNat (0:Int))).length:Int))) ((get b a).bind fun x59=>cond (decide (0≤x59)) ((chk (a+1)).bind fun z66=>some (.inl (c,z66,b))) ((get b a).bind fun x69=>((loopN n (F.qdz n f c) (([a]:List Int),(b.set a.toNat c))).bind fun o85=>match o85 with
    | (g,d)=>(chk (c+1)).bind fun z177=>(chk (a+1)).bind fun z179=>some (.inl (z177,z179,d))))) (some (.inr (c,a,b)))

def qff (n:Nat) (c:List Int):Int×(List Int)→Option ((Int×(List Int))⊕((Int×(List Int))))
  | (a,b)=>cond (decide (a<(((List.replicate (c.length:Int).toNat (0:Int))).length:Int))) ((get b a).bind fun x31=>(chk (a+1)).bind fun z38=>some (.inl (z38,(b.set a.toNat (-1))))) (some (.inr (a,b)))

def qgi (n:Nat) (a:List Int) (d:List Int) (f:Int):Option ((List Int)×Int):=
  (pos (a.length:Int)).bind fun u8=>((loopN n (F.qff n a) (0,(List.replicate (a.length:Int).toNat (0:Int)))).bind fun o19=>match o19 with
    | (g,b)=>((loopN n (F.qfd n a d) (0,0,b)).bind fun o45=>match o45 with
    | (e,h,c)=>some (c,e)))


def qep (n:Nat) (a:Int) (b:Int):Option (Int):=
  cond (decide (a<0)) (some (-1)) ((nz 4).bind fun u7=>(chk (a-(Int.tmod a 4))).bind fun z9=>(nz 4).bind fun u11=>(nz 4).bind fun u13=>(chk ((Int.tmod a 4)+(Int.tmod b 4))).bind fun z15=>(chk (z15+4)).bind fun z17=>(nz 4).bind fun u19=>(chk (z9+(Int.tmod z17 4))).bind fun z21=>some z21)

def qdk (n:Nat) (c:List Int):Int×(List Bool)→Option ((Int×(List Bool))⊕((Int×(List Bool))))
  | (a,b)=>(get b a).bind fun x138=>cond (!x138) ((get b a).bind fun x146=>(get c a).bind fun x153=>(F.qep n x153 (-1)).bind fun y159=>some (.inl (y159,(b.set a.toNat true)))) (some (.inr (a,b)))

def qbz (n:Nat) (y8:(List Int)×Int) (b:List Int):Int→Option ((Int)⊕((Int)⊕(Bool)))
  | a=>cond (decide (a<(((List.replicate y8.2.toNat (0:Int))).length:Int))) ((get b a).bind fun x183=>cond (!(decide (x183=2))) (some (.inr (.inr false))) ((chk (a+1)).bind fun z192=>some (.inl z192))) (some (.inr (.inl a)))

def qdl (n:Nat) (d:List Int) (y8:(List Int)×Int):Int×(List Int)×(List Bool)→Option ((Int×(List Int)×(List Bool))⊕((Int×(List Int)×(List Bool))))
  | (a,b,c)=>cond (decide (a<(d.length:Int))) ((get c a).bind fun x92=>cond x92 ((chk (a+1)).bind fun z99=>some (.inl (z99,b,c))) ((nz 4).bind fun u102=>(chk (Int.tdiv a 4)).bind fun z104=>(get y8.1 z104).bind fun x106=>(get b x106).bind fun x112=>(chk (x112+1)).bind fun z118=>(get b x106).bind fun x120=>((loopN n (F.qdk n d) (a,c)).bind fun o129=>match o129 with
    | (f,e)=>(chk (a+1)).bind fun z165=>some (.inl (z165,(b.set x106.toNat z118),e))))) (some (.inr (a,b,c)))

def qdm (n:Nat) (y8:(List Int)×Int):Int×(List Int)→Option ((Int×(List Int))⊕((Int×(List Int))))
  | (b,a)=>cond (decide (b<(y8.1.length:Int))) ((get y8.1 b).bind fun x42=>(get a x42).bind fun x48=>(chk (x48-1)).bind fun z54=>(get a x42).bind fun x56=>(chk (b+1)).bind fun z63=>some (.inl (z63,(a.set x42.toNat z54)))) (some (.inr (b,a)))

def qdo (n:Nat) (d:List Int) (a:List Int) (e:Int):Option (Bool):=
  (F.qgi n d a e).bind fun y8=>(pos y8.2).bind fun u19=>((loopN n (F.qdm n y8) (0,(List.replicate y8.2.toNat (0:Int)))).bind fun o30=>match o30 with
    | (g,b)=>(pos (a.length:Int)).bind fun u68=>((loopN n (F.qdl n a y8) (0,b,(List.replicate (a.length:Int).toNat false))).bind fun o78=>match o78 with
    | (h,c,f)=>((loopN n (F.qbz n y8 c) 0).bind fun o171=>match o171 with
    | (.inl i)=>some true
    | (.inr q)=>some q)))

def qbt (n:Nat) (c:List Int) (b:List Int) (d:Int):Int→Option ((Int)⊕((Int)⊕(Bool)))
  | a=>cond (decide (a<(b.length:Int))) ((get b a).bind fun x65=>cond (decide (x65<0)) (some (.inr (.inr false))) ((chk (4*(c.length:Int))).bind fun z75=>cond (decide (z75≤x65)) (some (.inr (.inr false))) (cond (decide (x65=a)) (some (.inr (.inr false))) ((get b x65).bind fun x81=>cond (!(decide (x81=a))) (some (.inr (.inr false))) ((F.qeb n c b d a).bind fun y93=>(F.qeb n c b d x65).bind fun y96=>cond (y93 == y96) (some (.inr (.inr false))) ((chk (a+1)).bind fun z101=>some (.inl z101))))))) (some (.inr (.inl a)))

def qdi (n:Nat) (b:List Int):Int→Option ((Int)⊕((Int)⊕(Bool)))
  | a=>cond (decide (a<(b.length:Int))) ((get b a).bind fun x35=>cond (!(decide (x35=1))) (cond (!(decide (x35=(-1)))) (some (.inr (.inr false))) ((chk (a+1)).bind fun z45=>some (.inl z45))) ((chk (a+1)).bind fun z47=>some (.inl z47))) (some (.inr (.inl a)))

def qca (n:Nat) (a:List Int) (c:List Int) (b:Int):Option (Bool):=
  cond (decide (64<(a.length:Int))) (some false) ((chk (4*(a.length:Int))).bind fun z12=>cond (!(decide ((c.length:Int)=z12))) (some false) (cond (decide (b<0)) (some false) (cond (decide (64<b)) (some false) (((loopN n (F.qdi n a) 0).bind fun o23=>match o23 with
    | (.inl d)=>((loopN n (F.qbt n a c b) 0).bind fun o53=>match o53 with
    | (.inl e)=>(F.qdo n a c b).bind fun y106=>some y106
    | (.inr q)=>some q)
    | (.inr q)=>some q)))))


def qfm (n:Nat) (d:Int) (a:List Int) (b:List Int) (c:Int):Option (Bool):=
  (F.qeb n a b c d).bind fun y6=>some y6


def qho (n:Nat) (a:Int):Option (Int):=
  (F.qep n a 2).bind fun y3=>some y3


def qee (n:Nat) (b:Int) (c:List Int) (a:List Int) (d:Int):Option (Int):=
  (get a b).bind fun x6=>(F.qho n x6).bind fun y12=>some y12

def qbl (n:Nat) (f:Int) (b:List Int) (c:List Int) (d:Int):(List Int)×Int→Option (((List Int)×Int)⊕(((List Int)×Int)))
  | (e,a)=>cond (!(decide (a=f))) ((lim (e.length+([a]:List Int).length)).bind fun u35=>(F.qee n a b c d).bind fun y42=>some (.inl ((e++([a]:List Int)),y42))) (some (.inr (e,a)))

def qcb (n:Nat) (d:Int) (a:List Int) (b:List Int) (c:Int):Option ((List Int)):=
  (F.qee n d a b c).bind fun y14=>((loopN n (F.qbl n d a b c) (([d]:List Int),y14)).bind fun o18=>match o18 with
    | (e,f)=>some e)

def qax (n:Nat) (y49:(List Int)):Int×(List Bool)→Option ((Int×(List Bool))⊕((Int×(List Bool))))
  | (a,b)=>cond (decide (a<(y49.length:Int))) ((get y49 a).bind fun x72=>(get b x72).bind fun x78=>(chk (a+1)).bind fun z85=>some (.inl (z85,(b.set x72.toNat true)))) (some (.inr (a,b)))

def qaw (n:Nat) (g:Int) (b:List Int) (c:List Int) (d:Int):(List (List Int))×Int×(List Bool)→Option (((List (List Int))×Int×(List Bool))⊕(((List (List Int))×Int×(List Bool))))
  | (f,a,e)=>cond (decide (a<g)) ((get e a).bind fun x32=>cond x32 ((chk (a+1)).bind fun z39=>some (.inl (f,z39,e))) ((F.qfm n a b c d).bind fun y41=>cond (!y41) ((chk (a+1)).bind fun z45=>some (.inl (f,z45,e))) ((F.qcb n a b c d).bind fun y49=>((loopN n (F.qax n y49) (0,e)).bind fun o60=>match o60 with
    | (i,h)=>(lim (f.length+([y49]:List (List Int)).length)).bind fun u95=>(chk (a+1)).bind fun z102=>some (.inl ((f++([y49]:List (List Int))),z102,h)))))) (some (.inr (f,a,e)))

def qbi (n:Nat) (a:Int) (b:List Int) (c:List Int) (d:Int):Option ((List (List Int))):=
  (pos a).bind fun u7=>((loopN n (F.qaw n a b c d) (([]:List (List Int)),0,(List.replicate a.toNat false))).bind fun o18=>match o18 with
    | (e,g,f)=>some e)


def qfo (n:Nat) (b:List Int) (a:List Int) (c:Int):Option ((List (List Int))):=
  (F.qca n b a c).bind fun y9=>cond (!y9) (some ([])) ((F.qbi n (a.length:Int) b a c).bind fun y17=>some y17)


def qid (n:Nat) (b:List Int) (c:List Int) (a:Int):Option (Int):=
  (F.qca n b c a).bind fun y9=>cond (!y9) (some 0) ((F.qfo n b c a).bind fun y17=>(chk ((y17.length:Int)+a)).bind fun z26=>some z26)


def qio (n:Nat) (a:Int):Option (Bool):=
  some true


def qhk (n:Nat) (b:Int) (c:List Int) (a:List Int) (d:Int):Option (Int):=
  (get a b).bind fun x6=>(F.qep n x6 (-1)).bind fun y12=>some y12

def qdu (n:Nat) (f:Int) (b:List Int) (c:List Int) (d:Int):(List Int)×Int→Option (((List Int)×Int)⊕(((List Int)×Int)))
  | (e,a)=>cond (!(decide (a=f))) ((lim (e.length+([a]:List Int).length)).bind fun u35=>(F.qhk n a b c d).bind fun y42=>some (.inl ((e++([a]:List Int)),y42))) (some (.inr (e,a)))

def qek (n:Nat) (d:Int) (a:List Int) (b:List Int) (c:Int):Option ((List Int)):=
  (F.qhk n d a b c).bind fun y14=>((loopN n (F.qdu n d a b c) (([d]:List Int),y14)).bind fun o18=>match o18 with
    | (e,f)=>some e)

def qbx (n:Nat) (y49:(List Int)):Int×(List Bool)→Option ((Int×(List Bool))⊕((Int×(List Bool))))
  | (a,b)=>cond (decide (a<(y49.length:Int))) ((get y49 a).bind fun x72=>(get b x72).bind fun x78=>(chk (a+1)).bind fun z85=>some (.inl (z85,(b.set x72.toNat true)))) (some (.inr (a,b)))

def qbw (n:Nat) (g:Int) (d:List Int) (e:List Int) (f:Int):(List (List Int))×Int×(List Bool)→Option (((List (List Int))×Int×(List Bool))⊕(((List (List Int))×Int×(List Bool))))
  | (c,a,b)=>cond (decide (a<g)) ((get b a).bind fun x32=>cond x32 ((chk (a+1)).bind fun z39=>some (.inl (c,z39,b))) ((F.qio n a).bind fun y41=>cond (!y41) ((chk (a+1)).bind fun z45=>some (.inl (c,z45,b))) ((F.qek n a d e f).bind fun y49=>((loopN n (F.qbx n y49) (0,b)).bind fun o60=>match o60 with
    | (i,h)=>(lim (c.length+([y49]:List (List Int)).length)).bind fun u95=>(chk (a+1)).bind fun z102=>some (.inl ((c++([y49]:List (List Int))),z102,h)))))) (some (.inr (c,a,b)))

def qcf (n:Nat) (a:Int) (b:List Int) (c:List Int) (d:Int):Option ((List (List Int))):=
  (pos a).bind fun u7=>((loopN n (F.qbw n a b c d) (([]:List (List Int)),0,(List.replicate a.toNat false))).bind fun o18=>match o18 with
    | (e,g,f)=>some e)


def diagram_Faces (n:Nat) (b:List Int) (a:List Int) (c:Int):Option ((List (List Int))):=
  (F.qca n b a c).bind fun y9=>cond (!y9) (some ([])) ((F.qcf n (a.length:Int) b a c).bind fun y17=>some y17)


def qhn (n:Nat):Option (Bool):=
  (F.qca n ([1]:List Int) ([1,0,3,2]:List Int) 0).bind fun y20=>cond y20 ((F.qid n ([1]:List Int) ([1,0,3,2]:List Int) 0).bind fun y24=>cond (decide (y24=1)) ((F.diagram_Faces n ([1]:List Int) ([1,0,3,2]:List Int) 0).bind fun y29=>some (decide ((y29.length:Int)=3))) (some false)) (some false)



def qgw (n:Nat) (a:List Int):Option ((List Int)):=
  (lim (([]:List Int).length+a.length)).bind fun u16=>some (([]:List Int)++a)


def qib (n:Nat) (b:List Int) (c:Int):Int→Option ((Int)⊕((Int)))
  | a=>(get b a).bind fun x59=>(get b c).bind fun x66=>cond (decide (x59<x66)) ((chk (a-1)).bind fun z74=>some (.inl z74)) (some (.inr a))

def perm_advance_b0 (n:Nat) (b:List Int):Int→Option ((Int)⊕((Int)))
  | a=>cond (decide (0≤a)) ((get b a).bind fun x19=>(chk (a+1)).bind fun z26=>(get b z26).bind fun x28=>cond (decide (x28<x19)) ((chk (a-1)).bind fun z36=>some (.inl z36)) (some (.inr a))) (some (.inr a))

def perm_advance (n:Nat) (b:List Int):Option (Bool×(List Int)):=
  (chk ((b.length:Int)-2)).bind fun z4=>((loopN n (F.perm_advance_b0 n b) z4).bind fun o7=>match o7 with
    | a=>cond (decide (a<0)) (some (false,b)) ((chk ((b.length:Int)-1)).bind fun z45=>((loopN n (F.qib n b a) z45).bind fun o48=>match o48 with
    | c=>(get b c).bind fun x81=>(get b a).bind fun x88=>(get b a).bind fun x95=>(get (b.set a.toNat x81) c).bind fun x103=>(chk (a+1)).bind fun z112=>(cut z112 (((b.set a.toNat x81).set c.toNat x88).length:Int) ((b.set a.toNat x81).set c.toNat x88).length).bind fun u114=>some (true,(((b.set a.toNat x81).set c.toNat x88).take z112.toNat++(((b.set a.toNat x81).set c.toNat x88).drop z112.toNat).reverse)))))

def qik {Sg Xg:Type} (step:List Int→Sg→Option (Sg⊕Xg)) (n:Nat):Sg×Bool×(List Int)→Option ((Sg×Bool×(List Int))⊕((Sg×Bool×(List Int))⊕(Sg⊕Xg)))
  | (c,b,a)=>cond b ((F.qgw n a).bind fun y54=>((step y54 c).bind fun o63=>Sum.elim (fun s72=>(F.perm_advance n a).bind fun y77=>some (.inl (s72,y77.1,y77.2))) (fun s75=>some (.inr (.inr (.inr s75)))) o63)) (some (.inr (.inl (c,b,a))))

def perm_All_c1_b0 {Sg Xg:Type} (step:List Int→Sg→Option (Sg⊕Xg)) (n:Nat) (c:Int):Sg×Int×(List Int)→Option ((Sg×Int×(List Int))⊕((Sg×Int×(List Int))))
  | (d,a,b)=>cond (decide (a<(((List.replicate c.toNat (0:Int))).length:Int))) ((get b a).bind fun x30=>(chk (a+1)).bind fun z37=>some (.inl (d,z37,(b.set a.toNat a)))) (some (.inr (d,a,b)))

def perm_All_c1 {Sg Xg:Type} (step:List Int→Sg→Option (Sg⊕Xg)) (n:Nat) (sg:Sg) (a:Int):Option (Sg⊕Xg):=
  cond (decide (a<0)) (some (.inl sg)) (cond (decide (8<a)) (some (.inl sg)) ((pos a).bind fun u7=>((loopN n (F.perm_All_c1_b0 step n a) (sg,0,(List.replicate a.toNat (0:Int)))).bind fun o18=>match o18 with
    | (c,f,b)=>((loopN n (F.qik step n) (c,true,b)).bind fun o42=>match o42 with
    | (.inl (d,g,e))=>some (.inl d)
    | (.inr q)=>some q))))

def qhp (n:Nat) (c:List Int):Int×(List Bool)→Option ((Int×(List Bool))⊕((Int×(List Bool))⊕(Bool)))
  | (b,a)=>cond (decide (b<(c.length:Int))) ((get c b).bind fun x26=>cond (decide (x26<0)) (some (.inr (.inr false))) (cond (decide ((c.length:Int)≤x26)) (some (.inr (.inr false))) ((get a x26).bind fun x38=>cond x38 (some (.inr (.inr false))) ((get a x26).bind fun x47=>(chk (b+1)).bind fun z54=>some (.inl (z54,(a.set x26.toNat true))))))) (some (.inr (.inl (b,a))))

def qgk (n:Nat) (a:List Int):Option (Bool):=
  (pos (a.length:Int)).bind fun u4=>((loopN n (F.qhp n a) (0,(List.replicate (a.length:Int).toNat false))).bind fun o14=>match o14 with
    | (.inl (c,b))=>some true
    | (.inr q)=>some q)

def perm_Cycles_b1 (n:Nat) (d:List Int):(List Int)×Int×(List Bool)→Option (((List Int)×Int×(List Bool))⊕(((List Int)×Int×(List Bool))))
  | (c,a,b)=>(get b a).bind fun x50=>cond (!x50) ((get b a).bind fun x59=>(lim (c.length+([a]:List Int).length)).bind fun u72=>(get d a).bind fun x80=>some (.inl ((c++([a]:List Int)),x80,(b.set a.toNat true)))) (some (.inr (c,a,b)))

def perm_Cycles_b0 (n:Nat) (f:List Int):(List (List Int))×Int×(List Bool)→Option (((List (List Int))×Int×(List Bool))⊕(((List (List Int))×Int×(List Bool))))
  | (b,a,c)=>cond (decide (a<(f.length:Int))) (((loopN n (F.perm_Cycles_b1 n f) (([]:List Int),a,c)).bind fun o41=>match o41 with
    | (e,g,d)=>cond (decide (0<(e.length:Int))) ((lim (b.length+([e]:List (List Int)).length)).bind fun u96=>(chk (a+1)).bind fun z103=>some (.inl ((b++([e]:List (List Int))),z103,d))) ((chk (a+1)).bind fun z105=>some (.inl (b,z105,d))))) (some (.inr (b,a,c)))

def perm_Cycles (n:Nat) (a:List Int):Option ((List (List Int))):=
  (F.qgk n a).bind fun y5=>cond (!y5) (some ([])) ((pos (a.length:Int)).bind fun u13=>((loopN n (F.perm_Cycles_b0 n a) (([]:List (List Int)),0,(List.replicate (a.length:Int).toNat false))).bind fun o25=>match o25 with
    | (b,d,c)=>some b))


def qhb (n:Nat) (a:List Int) (b:List Int):Option (Int):=
  (chk ((b.length:Int)-(a.length:Int))).bind fun z5=>some z5

def qcw (n:Nat) (a:List (List Int)):Option (List (List Int)):=if (a.all fun x=>a.all fun y=>(qhb n x y).isSome)=true∧swoL (fun x y:(List Int)=>(qhb n x y).getD 0) a=true∧a.length≤1099511627776 then some (sortL (fun x y:(List Int)=>(qhb n x y).getD 0) a) else none

def perm_Type_b0 (n:Nat) (y4:(List (List Int))) (y14:List (List Int)):(List Int)×Int→Option (((List Int)×Int)⊕(((List Int)×Int)))
  | (b,a)=>cond (decide (a<(y4.length:Int))) ((get y14 a).bind fun x34=>(lim (b.length+([(x34.length:Int)]:List Int).length)).bind fun u51=>(chk (a+1)).bind fun z58=>some (.inl ((b++([(x34.length:Int)]:List Int)),z58))) (some (.inr (b,a)))

def perm_Type (n:Nat) (b:List Int):Option ((List Int)):=
  (F.perm_Cycles n b).bind fun y4=>(F.qcw n y4).bind fun y14=>((loopN n (F.perm_Type_b0 n y4 y14) (([]:List Int),0)).bind fun o22=>match o22 with
    | (a,c)=>some a)

def qga (n:Nat) (b:List Int) (c:List Int):Int→Option ((Int)⊕((Int)⊕(Bool)))
  | a=>cond (decide (a<(b.length:Int))) ((get b a).bind fun x25=>(get c a).bind fun x32=>cond (!(decide (x25=x32))) (some (.inr (.inr false))) ((chk (a+1)).bind fun z41=>some (.inl z41))) (some (.inr (.inl a)))

def qhe (n:Nat) (a:List Int) (b:List Int):Option (Bool):=
  cond (!(decide ((a.length:Int)=(b.length:Int)))) (some false) (((loopN n (F.qga n a b) 0).bind fun o10=>match o10 with
    | (.inl c)=>some true
    | (.inr q)=>some q))

def perm_Class_b1 (n:Nat) (b:List Int):List Int→(List (List Int))→Option (((List (List Int)))⊕((List (List Int))))
  | c,a=>(F.perm_Type n c).bind fun y106=>(F.qhe n y106 b).bind fun y115=>cond y115 ((lim (a.length+([c]:List (List Int)).length)).bind fun u125=>some (.inl (a++([c]:List (List Int))))) (some (.inl a))

def qhr (n:Nat) (b:List Int):Int×Int→Option ((Int×Int)⊕((Int×Int)⊕((List (List Int))×Int)))
  | (c,a)=>cond (decide (a<(b.length:Int))) ((get b a).bind fun x32=>cond (decide (x32<1)) (some (.inr (.inr ([],1)))) (cond (decide (c<x32)) (some (.inr (.inr ([],1)))) (cond (decide (0<a)) ((chk (a-1)).bind fun z51=>(get b z51).bind fun x53=>cond (decide (x53<x32)) (some (.inr (.inr ([],1)))) ((chk (c-x32)).bind fun z64=>(chk (a+1)).bind fun z66=>some (.inl (z64,z66)))) ((chk (c-x32)).bind fun z69=>(chk (a+1)).bind fun z71=>some (.inl (z69,z71)))))) (some (.inr (.inl (c,a))))

def qdx (n:Nat) (b:Int) (a:List Int):Option ((List (List Int))×Int):=
  cond (decide (b<1)) (some ([],2)) (cond (decide (8<b)) (some ([],2)) (((loopN n (F.qhr n a) (b,0)).bind fun o20=>match o20 with
    | (.inl (d,e))=>cond (!(decide (d=0))) (some ([],1)) (((F.perm_All_c1 ((F.perm_Class_b1 n a):List Int→(List (List Int))→Option (((List (List Int)))⊕((List (List Int))))) n ([]:List (List Int)) b).bind fun o91=>match lr o91 with
    | c=>some (c,0)))
    | (.inr q)=>some q)))

def perm_key_b0 (n:Nat) (c:List Int):(List Int)×Int→Option (((List Int)×Int)⊕(((List Int)×Int)))
  | (b,a)=>cond (decide (a<(c.length:Int))) ((get c a).bind fun x28=>(lim (b.length+([(w8 x28),(w8 (x28/ 256)),(w8 (x28/ 65536)),(w8 (x28/ 16777216))]:List Int).length)).bind fun u40=>(chk (a+1)).bind fun z47=>some (.inl ((b++([(w8 x28),(w8 (x28/ 256)),(w8 (x28/ 65536)),(w8 (x28/ 16777216))]:List Int)),z47))) (some (.inr (b,a)))

def perm_key (n:Nat) (a:List Int):Option ((List Int)):=
  (chk (4*(a.length:Int))).bind fun z4=>(pos z4).bind fun u6=>((loopN n (F.perm_key_b0 n a) (([]:List Int),0)).bind fun o16=>match o16 with
    | (b,c)=>some b)

def qfp (n:Nat) (c:List Int):Int×(List Int)→Option ((Int×(List Int))⊕((Int×(List Int))))
  | (a,b)=>cond (decide (a<(c.length:Int))) ((get c a).bind fun x35=>(get b x35).bind fun x41=>(chk (a+1)).bind fun z48=>some (.inl (z48,(b.set x35.toNat a)))) (some (.inr (a,b)))

def qfy (n:Nat) (a:List Int):Option ((List Int)):=
  (F.qgk n a).bind fun y5=>cond (!y5) (some ([])) ((pos (a.length:Int)).bind fun u12=>((loopN n (F.qfp n a) (0,(List.replicate (a.length:Int).toNat (0:Int)))).bind fun o23=>match o23 with
    | (c,b)=>some b))

def qhy (n:Nat) (x206:List Int) (x241:List Int) (x254:List Int):Int×(List Int)→Option ((Int×(List Int))⊕((Int×(List Int))))
  | (a,b)=>cond (decide (a<(x254.length:Int))) ((get x254 a).bind fun x278=>(get x206 x278).bind fun x284=>(get x241 x284).bind fun x290=>(get b a).bind fun x296=>(chk (a+1)).bind fun z303=>some (.inl (z303,(b.set a.toNat x290)))) (some (.inr (a,b)))

def qia (n:Nat) (g:List (List Int)) (e:List ((List Int)×Int)) (f:List (List Int)) (x206:List Int):Int×(List Int)×(List Int)→Option ((Int×(List Int)×(List Int))⊕((Int×(List Int)×(List Int))⊕((List (List Int))×Int)))
  | (a,c,b)=>cond (decide (a<(g.length:Int))) ((get g a).bind fun x241=>(get f a).bind fun x254=>((loopN n (F.qhy n x206 x241 x254) (0,c)).bind fun o266=>match o266 with
    | (h,d)=>(F.perm_key n d).bind fun y308=>(chk ((smget e y308).getD 0)).bind fun z311=>cond (!(smget e y308).isSome) (some (.inr (.inr ([],12)))) ((get b a).bind fun x320=>(chk (a+1)).bind fun z327=>some (.inl (z327,d,(b.set a.toNat z311)))))) (some (.inr (.inl (a,c,b))))

def qez (n:Nat) (e:List (List Int)) (h:List ((List Int)×Int)) (f:List (List Int)):(List (List Int))×Int×(List Int)→Option (((List (List Int))×Int×(List Int))⊕(((List (List Int))×Int×(List Int))⊕((List (List Int))×Int)))
  | (d,a,b)=>cond (decide (a<(e.length:Int))) ((get e a).bind fun x206=>(pos (e.length:Int)).bind fun u218=>((loopN n (F.qia n e h f x206) (0,b,(List.replicate (e.length:Int).toNat (0:Int)))).bind fun o229=>match o229 with
    | (.inl (i,g,c))=>(lim (d.length+([c]:List (List Int)).length)).bind fun u337=>(chk (a+1)).bind fun z344=>some (.inl ((d++([c]:List (List Int))),z344,g))
    | (.inr q)=>some (.inr (.inr q)))) (some (.inr (.inl (d,a,b))))

def qey (n:Nat) (c:List (List Int)):Int×(List (List Int))→Option ((Int×(List (List Int)))⊕((Int×(List (List Int)))))
  | (a,b)=>cond (decide (a<(c.length:Int))) ((get c a).bind fun x138=>(F.qfy n x138).bind fun y149=>(get b a).bind fun x158=>(chk (a+1)).bind fun z165=>some (.inl (z165,(b.set a.toNat y149)))) (some (.inr (a,b)))

def qgb (n:Nat) (c:List (List Int)):Int×(List ((List Int)×Int))→Option ((Int×(List ((List Int)×Int)))⊕((Int×(List ((List Int)×Int)))⊕((List (List Int))×Int)))
  | (b,a)=>cond (decide (b<(c.length:Int))) ((get c b).bind fun x83=>(F.perm_key n x83).bind fun y95=>(chk ((smget a y95).getD 0)).bind fun z100=>cond ((smget a y95).isSome) (some (.inr (.inr ([],14)))) ((nok (smget a y95)).bind fun u108=>(chk (b+1)).bind fun z111=>some (.inl (z111,(a++[(y95,b)]))))) (some (.inr (.inl (b,a))))

def qhz (n:Nat) (b:List (List Int)):Int→Option ((Int)⊕((Int)⊕((List (List Int))×Int)))
  | a=>cond (decide (a<(b.length:Int))) ((get b a).bind fun x26=>(F.qgk n x26).bind fun y38=>cond (!y38) (some (.inr (.inr ([],1)))) ((get b 0).bind fun x45=>cond (!(decide ((x26.length:Int)=(x45.length:Int)))) (some (.inr (.inr ([],1)))) ((chk (a+1)).bind fun z61=>some (.inl z61)))) (some (.inr (.inl a)))

def qfg (n:Nat) (a:List (List Int)):Option ((List (List Int))×Int):=
  cond (decide ((a.length:Int)=0)) (some ([],1)) (((loopN n (F.qhz n a) 0).bind fun o14=>match o14 with
    | (.inl f)=>((loopN n (F.qgb n a) (0,([]:List (List Int×Int)))).bind fun o71=>match o71 with
    | (.inl (g,c))=>(pos (a.length:Int)).bind fun u116=>((loopN n (F.qey n a) (0,(List.replicate (a.length:Int).toNat ([]:List Int)))).bind fun o126=>match o126 with
    | (h,b)=>(get a 0).bind fun x170=>(pos (x170.length:Int)).bind fun u181=>((loopN n (F.qez n a c b) (([]:List (List Int)),0,(List.replicate (x170.length:Int).toNat (0:Int)))).bind fun o194=>match o194 with
    | (.inl (d,i,e))=>some (d,0)
    | (.inr q)=>some q))
    | (.inr q)=>some q)
    | (.inr q)=>some q))


def qbh:Nat→Int→(List Int)→Option (Int×(List Int))
  | 0,_,_=>none
  | n+1,b,a=>(get a b).bind fun x7=>cond (!(decide (x7=b))) ((get a b).bind fun x16=>((qbh n) x16 a).bind fun y26=>(get y26.2 b).bind fun x31=>(get (y26.2.set b.toNat y26.1) b).bind fun x40=>some (x40,(y26.2.set b.toNat y26.1))) ((get a b).bind fun x47=>some (x47,a))

def qew (n:Nat) (e:List Int):Int×(List Int)×(List (Int×Int))×(List Int)→Option ((Int×(List Int)×(List (Int×Int))×(List Int))⊕((Int×(List Int)×(List (Int×Int))×(List Int))))
  | (b,d,a,c)=>cond (decide (b<(((List.replicate (e.length:Int).toNat (0:Int))).length:Int))) ((F.qbh n b d).bind fun y169=>(chk ((imget a y169.1).getD 0)).bind fun z175=>cond (!(imget a y169.1).isSome) ((chk (a.length:Int)).bind fun z180=>(nok (imget a y169.1)).bind fun u182=>(chk ((imget (a++[(y169.1,z180)]) y169.1).getD 0)).bind fun z185=>(get c b).bind fun x187=>(chk (b+1)).bind fun z194=>some (.inl (z194,y169.2,(a++[(y169.1,z180)]),(c.set b.toNat z185)))) ((chk ((imget a y169.1).getD 0)).bind fun z196=>(get c b).bind fun x198=>(chk (b+1)).bind fun z205=>some (.inl (z205,y169.2,a,(c.set b.toNat z196))))) (some (.inr (b,d,a,c)))

def qev (n:Nat) (c:List Int):Int×(List Int)→Option ((Int×(List Int))⊕((Int×(List Int))))
  | (a,b)=>cond (decide (a<(c.length:Int))) ((chk (4*a)).bind fun z111=>(chk (z111+1)).bind fun z113=>(F.qbh n z113 b).bind fun y115=>(chk (4*a)).bind fun z120=>(chk (z120+3)).bind fun z122=>(F.qbh n z122 y115.2).bind fun y124=>(get y124.2 y115.1).bind fun x129=>(chk (a+1)).bind fun z136=>some (.inl (z136,(y124.2.set y115.1.toNat y124.1)))) (some (.inr (a,b)))

def qex (n:Nat) (c:List Int):Int×(List Int)→Option ((Int×(List Int))⊕((Int×(List Int))))
  | (a,b)=>cond (decide (a<(c.length:Int))) ((get c a).bind fun x66=>(F.qbh n a b).bind fun y74=>(F.qbh n x66 y74.2).bind fun y79=>(get y79.2 y74.1).bind fun x84=>(chk (a+1)).bind fun z91=>some (.inl (z91,(y79.2.set y74.1.toNat y79.1)))) (some (.inr (a,b)))

def qdp (n:Nat) (c:List Int):Int×(List Int)→Option ((Int×(List Int))⊕((Int×(List Int))))
  | (a,b)=>cond (decide (a<(((List.replicate (c.length:Int).toNat (0:Int))).length:Int))) ((get b a).bind fun x35=>(chk (a+1)).bind fun z42=>some (.inl (z42,(b.set a.toNat a)))) (some (.inr (a,b)))

def qdj (n:Nat) (g:List Int) (a:List Int) (i:Int):Option ((List Int)×Int):=
  (pos (a.length:Int)).bind fun u8=>((loopN n (F.qdp n a) (0,(List.replicate (a.length:Int).toNat (0:Int)))).bind fun o23=>match o23 with
    | (j,d)=>((loopN n (F.qex n a) (0,d)).bind fun o54=>match o54 with
    | (k,e)=>((loopN n (F.qev n g) (0,e)).bind fun o97=>match o97 with
    | (l,f)=>(pos (a.length:Int)).bind fun u145=>((loopN n (F.qew n a) (0,f,([]:List (Int×Int)),(List.replicate (a.length:Int).toNat (0:Int)))).bind fun o156=>match o156 with
    | (m,h,b,c)=>(chk (b.length:Int)).bind fun z210=>some (c,z210)))))

def qfz (n:Nat) (c:List Int):(List Int)×Int→Option (((List Int)×Int)⊕(((List Int)×Int)))
  | (a,b)=>cond (decide (b<(c.length:Int))) ((get c b).bind fun x18=>(chk ((a.length:Int)-1)).bind fun z25=>cond (decide (0≤z25)) ((get a z25).bind fun x29=>(chk (-x18)).bind fun z35=>cond (decide (x29=z35)) ((cut 0 z25 a.length).bind fun u39=>(chk (b+1)).bind fun z43=>some (.inl ((a.take z25.toNat),z43))) ((lim (a.length+([x18]:List Int).length)).bind fun u51=>(chk (b+1)).bind fun z58=>some (.inl ((a++([x18]:List Int)),z58)))) ((lim (a.length+([x18]:List Int).length)).bind fun u67=>(chk (b+1)).bind fun z74=>some (.inl ((a++([x18]:List Int)),z74)))) (some (.inr (a,b)))

def word_push (n:Nat) (b:List Int) (a:List Int):Option ((List Int)):=
  ((loopN n (F.qfz n a) (b,0)).bind fun o6=>match o6 with
    | (c,d)=>some c)


def qhv (n:Nat) (a:List Int):Option ((List Int)):=
  (pos (a.length:Int)).bind fun u4=>(F.word_push n ([]:List Int) a).bind fun y12=>some y12

def qen (n:Nat) (y21:(List Int)×Int) (c:Int) (x76:List Int):Int×(List Int)→Option ((Int×(List Int))⊕((Int×(List Int))))
  | (a,b)=>cond (decide (a<(x76.length:Int))) ((get x76 a).bind fun x100=>(get y21.1 x100).bind fun x108=>(get b x108).bind fun x115=>(chk (a+1)).bind fun z123=>some (.inl (z123,(b.set x108.toNat c)))) (some (.inr (a,b)))

def qda (n:Nat) (c:List Int) (y21:(List Int)×Int):Int×(List (List Int))→Option ((Int×(List (List Int)))⊕((Int×(List (List Int)))))
  | (b,a)=>cond (decide (b<(c.length:Int))) ((get c b).bind fun x175=>(chk (4*b)).bind fun z184=>(get y21.1 z184).bind fun x186=>(chk (x186+1)).bind fun z193=>(chk (4*b)).bind fun z195=>(chk (z195+2)).bind fun z197=>(get y21.1 z197).bind fun x199=>(chk (x199+1)).bind fun z206=>(chk (4*b)).bind fun z208=>(chk (z208+1)).bind fun z210=>(get y21.1 z210).bind fun x212=>(chk (x212+1)).bind fun z219=>cond (decide (0<x175)) ((chk (-z206)).bind fun z226=>(chk (-z219)).bind fun z228=>(lim (([]:List Int).length+([z226,z228,z193,z219]:List Int).length)).bind fun u237=>(F.qhv n (([]:List Int)++([z226,z228,z193,z219]:List Int))).bind fun y247=>(lim (a.length+([y247]:List (List Int)).length)).bind fun u262=>(chk (b+1)).bind fun z270=>some (.inl (z270,(a++([y247]:List (List Int)))))) ((chk (-z206)).bind fun z272=>(chk (-z219)).bind fun z274=>(lim (([]:List Int).length+([z272,z219,z193,z274]:List Int).length)).bind fun u283=>(F.qhv n (([]:List Int)++([z272,z219,z193,z274]:List Int))).bind fun y293=>(lim (a.length+([y293]:List (List Int)).length)).bind fun u308=>(chk (b+1)).bind fun z316=>some (.inl (z316,(a++([y293]:List (List Int))))))) (some (.inr (b,a)))

def qeq (n:Nat) (c:Int) (y21:(List Int)×Int) (y53:(List (List Int))):Int×(List Int)→Option ((Int×(List Int))⊕((Int×(List Int))))
  | (a,b)=>cond (decide (a<c)) ((chk (y21.2+a)).bind fun z145=>(chk ((y53.length:Int)+a)).bind fun z147=>(get b z145).bind fun x149=>(chk (a+1)).bind fun z156=>some (.inl (z156,(b.set z145.toNat z147)))) (some (.inr (a,b)))

def qet (n:Nat) (y21:(List Int)×Int) (y53:(List (List Int))):Int×(List Int)→Option ((Int×(List Int))⊕((Int×(List Int))))
  | (a,b)=>cond (decide (a<(y53.length:Int))) ((get y53 a).bind fun x76=>((loopN n (F.qen n y21 a x76) (0,b)).bind fun o88=>match o88 with
    | (d,c)=>(chk (a+1)).bind fun z127=>some (.inl (z127,c)))) (some (.inr (a,b)))

def qic (n:Nat) (b:List Int) (c:List Int) (a:Int):Option (Int×(List Int)×(List (List Int))×Int):=
  (F.qca n b c a).bind fun y12=>cond (!y12) (some (0,[],[],1)) ((F.qdj n b c a).bind fun y21=>(chk (y21.2+a)).bind fun z35=>(chk (y21.2+a)).bind fun z37=>(pos z37).bind fun u39=>(F.qfo n b c a).bind fun y53=>((loopN n (F.qet n y21 y53) (0,(List.replicate z37.toNat (0:Int)))).bind fun o64=>match o64 with
    | (g,e)=>((loopN n (F.qeq n a y21 y53) (0,e)).bind fun o133=>match o133 with
    | (h,f)=>((loopN n (F.qda n b y21) (0,([]:List (List Int)))).bind fun o163=>match o163 with
    | (i,d)=>some (z35,f,d,0)))))

def qht (n:Nat) (c:List Int) (a:Int):Int→Option ((Int)⊕((Int)⊕(Bool)))
  | b=>cond (decide (b<(c.length:Int))) ((get c b).bind fun x17=>cond (decide (a<1)) (some (.inr (.inr false))) (cond (decide (x17=0)) (some (.inr (.inr false))) (cond (decide (a<x17)) (some (.inr (.inr false))) ((chk (-a)).bind fun z30=>cond (decide (x17<z30)) (some (.inr (.inr false))) ((chk (b+1)).bind fun z34=>some (.inl z34)))))) (some (.inr (.inl b)))

def word_Valid (n:Nat) (b:List Int) (a:Int):Option (Bool):=
  ((loopN n (F.qht n b a) 0).bind fun o5=>match o5 with
    | (.inl c)=>some true
    | (.inr q)=>some q)

def qdf (n:Nat) (c:Int) (b:List (List Int)):Int→Option ((Int)⊕((Int)⊕(Bool)))
  | a=>cond (decide (a<(b.length:Int))) ((get b a).bind fun x59=>(F.word_Valid n x59 c).bind fun y71=>cond (!y71) (some (.inr (.inr false))) ((chk (a+1)).bind fun z76=>some (.inl z76))) (some (.inr (.inl a)))

def qeg (n:Nat) (c:Int) (b:List Int):Int→Option ((Int)⊕((Int)⊕(Bool)))
  | a=>cond (decide (a<(b.length:Int))) ((get b a).bind fun x30=>cond (decide (x30<0)) (some (.inr (.inr false))) (cond (decide (c≤x30)) (some (.inr (.inr false))) ((chk (a+1)).bind fun z41=>some (.inl z41)))) (some (.inr (.inl a)))

def qdt (n:Nat) (a:Int) (b:List Int) (c:List (List Int)):Option (Bool):=
  cond (decide (a<0)) (some false) (cond (decide (1000<a)) (some false) (cond (!(decide ((b.length:Int)=a))) (some false) (((loopN n (F.qeg n a b) 0).bind fun o18=>match o18 with
    | (.inl d)=>((loopN n (F.qdf n a c) 0).bind fun o47=>match o47 with
    | (.inl e)=>some true
    | (.inr q)=>some q)
    | (.inr q)=>some q))))

def qdh (n:Nat) (x31:List Int):Int×Int→Option ((Int×Int)⊕((Int×Int)))
  | (b,a)=>cond (decide (a<(x31.length:Int))) ((get x31 a).bind fun x57=>(chk (-x57)).bind fun z63=>(chk (a+1)).bind fun z65=>some (.inl ((max (max b x57) z63),z65))) (some (.inr (b,a)))

def qdg (n:Nat) (c:List (List Int)):Int×(List (List (List Int)))→Option ((Int×(List (List (List Int))))⊕((Int×(List (List (List Int))))))
  | (b,a)=>cond (decide (b<(c.length:Int))) ((get c b).bind fun x31=>((loopN n (F.qdh n x31) (0,0)).bind fun o45=>match o45 with
    | (d,e)=>cond (decide (0<d)) ((chk (d-1)).bind fun z71=>(get a z71).bind fun x73=>(lim (x73.length+([x31]:List (List Int)).length)).bind fun u93=>(get a z71).bind fun x100=>(chk (b+1)).bind fun z110=>some (.inl (z110,(a.set z71.toNat (x73++([x31]:List (List Int))))))) ((chk (b+1)).bind fun z112=>some (.inl (z112,a))))) (some (.inr (b,a)))

def qgo (n:Nat) (a:Int) (d:List Int) (c:List (List Int)):Option ((List (List (List Int)))):=
  (pos a).bind fun u8=>((loopN n (F.qdg n c) (0,(List.replicate a.toNat ([]:List (List Int))))).bind fun o19=>match o19 with
    | (e,b)=>some b)

def qdy (n:Nat) (c:Int):Int×(List Int)→Option ((Int×(List Int))⊕((Int×(List Int))))
  | (a,b)=>cond (decide (a<(((List.replicate c.toNat (0:Int))).length:Int))) ((get b a).bind fun x25=>(chk (a+1)).bind fun z32=>some (.inl (z32,(b.set a.toNat a)))) (some (.inr (a,b)))

def qgg (n:Nat) (a:Int):Option ((List Int)):=
  (pos a).bind fun u3=>((loopN n (F.qdy n a) (0,(List.replicate a.toNat (0:Int)))).bind fun o13=>match o13 with
    | (c,b)=>some b)


def qhu (n:Nat) (b:List (List Int)) (a:Int):Option (Bool×Int):=
  (chk (a+1)).bind fun z5=>some (true,z5)

def qbs (n:Nat) (c:List Int) (d:List Int):Int×(List Int)→Option ((Int×(List Int))⊕((Int×(List Int))))
  | (a,b)=>cond (decide (a<(c.length:Int))) ((get b a).bind fun x71=>(get d x71).bind fun x77=>(get b a).bind fun x83=>(chk (a+1)).bind fun z90=>some (.inl (z90,(b.set a.toNat x77)))) (some (.inr (a,b)))

def qfb (n:Nat) (a:List Int) (b:Int) (c:List Int) (d:List Int) (f:Bool):Option ((Int×(List Int))⊕((Int×(List Int)))):=
  ((loopN n (F.qbs n a d) (0,c)).bind fun o59=>match o59 with
    | (g,e)=>(chk (b+1)).bind fun z94=>some (.inl (z94,e)))

def qea (n:Nat) (b:List Int) (e:List Int) (f:List (List Int)) (c:List (List Int)):Int×(List Int)→Option ((Int×(List Int))⊕((Int×(List Int))))
  | (a,d)=>cond (decide (a<(e.length:Int))) ((get e a).bind fun x18=>cond (decide (0<x18)) ((chk (x18-1)).bind fun z28=>(get f z28).bind fun x30=>F.qfb n b a d x30 (decide (0<x18))) ((chk (-x18)).bind fun z41=>(chk (z41-1)).bind fun z43=>(get c z43).bind fun x45=>F.qfb n b a d x45 (decide (0<x18)))) (some (.inr (a,d)))

def qgh (n:Nat) (a:List Int) (d:List Int) (e:List (List Int)) (b:List (List Int)):Option ((List Int)):=
  ((loopN n (F.qea n a d e b) (0,a)).bind fun o6=>match o6 with
    | (f,c)=>some c)

def qde (n:Nat) (b:List Int) (c:List Int):Int→Option ((Int)⊕((Int)⊕(Bool)))
  | a=>cond (decide (a<(b.length:Int))) ((get b a).bind fun x25=>(get c a).bind fun x32=>cond (!(decide (x25=x32))) (some (.inr (.inr false))) ((chk (a+1)).bind fun z41=>some (.inl z41))) (some (.inr (.inl a)))

def qdc (n:Nat) (a:List Int) (b:List Int):Option (Bool):=
  cond (!(decide ((a.length:Int)=(b.length:Int)))) (some false) (((loopN n (F.qde n a b) 0).bind fun o10=>match o10 with
    | (.inl c)=>some true
    | (.inr q)=>some q))

def qgr (self:Int→Int→(List Int)→(List (List Int))→Int→(List (List Int))→(List (List Int))→Int→(List (List Int))→(List (List (List Int)))→(List Int)→(List Int)→Option (Bool×(List (List Int))×(List (List Int))×(List Int)×Int×Int)) (n:Nat) (d:Int) (c:List Int) (f:List (List Int)) (e:List (List Int)) (x44:List Int) (y66:(List Int)) (x94:List (List Int)):Int×(List Int)→Option ((Int×(List Int))⊕((Int×(List Int))⊕(Int×(List Int))))
  | (a,b)=>cond (decide (a<(x94.length:Int))) ((get x94 a).bind fun x117=>(F.qgh n (c.take (min c.length b.length)++b.drop (min c.length b.length)) x117 (f.set d.toNat x44) (e.set d.toNat y66)).bind fun y131=>(F.qdc n y131 c).bind fun y136=>cond (!y136) (some (.inr (.inr (a,y131)))) ((chk (a+1)).bind fun z142=>some (.inl (z142,y131)))) (some (.inr (.inl (a,b))))

def qgq (self:Int→Int→(List Int)→(List (List Int))→Int→(List (List Int))→(List (List Int))→Int→(List (List Int))→(List (List (List Int)))→(List Int)→(List Int)→Option (Bool×(List (List Int))×(List (List Int))×(List Int)×Int×Int)) (n:Nat) (a:Int) (l:Int) (m:List Int) (o:List (List Int)) (i:List (List Int)) (j:List (List (List Int))) (k:List Int):Int×Int×(List (List Int))×Int×(List (List Int))×(List Int)→Option ((Int×Int×(List (List Int))×Int×(List (List Int))×(List Int))⊕((Int×Int×(List (List Int))×Int×(List (List Int))×(List Int))⊕(Bool×(List (List Int))×(List (List Int))×(List Int)×Int×Int)))
  | (e,c,d,f,b,g)=>cond (decide (e<(i.length:Int))) ((get i e).bind fun x44=>(chk (f+1)).bind fun z56=>cond (decide (200000<z56)) (some (.inr (.inr (false,d,b,g,c,z56)))) ((F.qfy n x44).bind fun y66=>(get d a).bind fun x75=>(get b a).bind fun x83=>(get j a).bind fun x94=>((loopN n (F.qgr self n a k d b x44 y66 x94) (0,g)).bind fun o105=>match o105 with
    | (.inl (p,h))=>(chk (a+1)).bind fun z147=>(self z147 l m o c (d.set a.toNat x44) i z56 (b.set a.toNat y66) j h k).bind fun y149=>cond (!y149.1) (some (.inr (.inr (false,y149.2.1,y149.2.2.1,y149.2.2.2.1,y149.2.2.2.2.1,y149.2.2.2.2.2)))) ((chk (e+1)).bind fun z156=>some (.inl (z156,y149.2.2.2.2.1,y149.2.1,y149.2.2.2.2.2,y149.2.2.1,y149.2.2.2.1)))
    | (.inr (p,h))=>(chk (e+1)).bind fun z146=>some (.inl (z146,c,(d.set a.toNat x44),z56,(b.set a.toNat y66),h))))) (some (.inr (.inl (e,c,d,f,b,g))))

def qcj:Nat→Int→Int→(List Int)→(List (List Int))→Int→(List (List Int))→(List (List Int))→Int→(List (List Int))→(List (List (List Int)))→(List Int)→(List Int)→Option (Bool×(List (List Int))×(List (List Int))×(List Int)×Int×Int)
  | 0,_,_,_,_,_,_,_,_,_,_,_,_=>none
  | n+1,d,e,l,m,a,b,o,f,g,p,h,r=>cond (decide (d=e)) ((F.qhu n b a).bind fun y25=>some (y25.1,b,g,h,y25.2,f)) (((loopN n (F.qgq (qcj n) n d e l m o p r) (0,a,b,f,g,h)).bind fun o32=>match o32 with
    | (.inl (t,i,s,c,j,k))=>some (true,s,j,k,i,c)
    | (.inr q)=>some q))

def qci (n:Nat) (d:Int) (e:List Int) (f:List (List Int)) (a:Int) (y27:(List (List Int))×Int) (y47:(List (List (List Int)))) (y61:(List Int)) (y70:(List Int)) (b:List (List Int)) (c:List (List Int)):Option (Int×Int):=
  (F.qcj n 0 d e f a b y27.1 0 c y47 y70 y61).bind fun y564=>cond (decide (200000<y564.2.2.2.2.2)) (some (13,y564.2.2.2.2.1)) (some (0,y564.2.2.2.2.1))

def qbv (n:Nat) (b:Int) (d:List Int) (e:List (List Int)) (c:Int) (f:List Int) (a:Int):Option (Int×Int):=
  (F.qdt n b d e).bind fun y14=>cond (!y14) (some (1,a)) (cond (decide (c<1)) (some (2,a)) (cond (decide (5<c)) (some (2,a)) ((F.qdx n c f).bind fun y27=>cond (!(decide (y27.2=0))) (some (1,a)) ((F.qgo n b d e).bind fun y47=>(F.qgg n c).bind fun y61=>(F.qgg n c).bind fun y70=>(pos b).bind fun u90=>(pos b).bind fun u98=>F.qci n b d e a y27 y47 y61 y70 (List.replicate b.toNat ([]:List Int)) (List.replicate b.toNat ([]:List Int))))))


def qgn (n:Nat) (b:Int) (c:List Int) (d:List (List Int)) (e:Int) (a:List Int):Option (Int×Int):=
  (F.qbv n b c d e a 0).bind fun y14=>cond (!(decide (y14.1=0))) (some (0,y14.1)) (some (y14.2,0))


def qih (n:Nat) (b:List Int) (c:List Int) (a:Int):Option ((List Int)×Int×Int):=
  (F.qca n b c a).bind fun y9=>cond (!y9) (some ([],0,1)) ((F.qdj n b c a).bind fun y16=>(chk (y16.2+a)).bind fun z30=>some (y16.1,z30,0))

def qhd (n:Nat) (b:List (List Int)):Int→Option ((Int)⊕((Int)⊕(Bool)))
  | a=>cond (decide (a<(b.length:Int))) ((get b a).bind fun x18=>(get x18 a).bind fun x29=>cond (!(decide (x29=a))) (some (.inr (.inr false))) ((chk (a+1)).bind fun z37=>some (.inl z37))) (some (.inr (.inl a)))

def qgl (n:Nat) (a:List (List Int)):Option (Bool):=
  ((loopN n (F.qhd n a) 0).bind fun o5=>match o5 with
    | (.inl b)=>some true
    | (.inr q)=>some q)

def qhf (n:Nat) (c:List (List Int)) (d:Int):Int×(List Bool)→Option ((Int×(List Bool))⊕((Int×(List Bool))⊕(Bool)))
  | (a,b)=>cond (decide (a<(c.length:Int))) ((get c a).bind fun x36=>(get x36 d).bind fun x47=>(ixn 30 x47).bind fun u53=>(get b x47).bind fun x55=>cond x55 (some (.inr (.inr false))) ((get c a).bind fun x60=>(get x60 d).bind fun x71=>(ixn 30 x71).bind fun u77=>(get b x71).bind fun x79=>(chk (a+1)).bind fun z82=>some (.inl (z82,(b.set x71.toNat true))))) (some (.inr (.inl (a,b))))

def qgx (n:Nat) (b:List (List Int)):Int→Option ((Int)⊕((Int)⊕(Bool)))
  | a=>cond (decide (a<(b.length:Int))) (((loopN n (F.qhf n b a) (0,(List.replicate 30 false))).bind fun o22=>match o22 with
    | (.inl (d,c))=>(chk (a+1)).bind fun z86=>some (.inl z86)
    | (.inr q)=>some (.inr (.inr q)))) (some (.inr (.inl a)))

def qgp (n:Nat) (a:List (List Int)):Option (Bool):=
  ((loopN n (F.qgx n a) 0).bind fun o5=>match o5 with
    | (.inl b)=>some true
    | (.inr q)=>some q)

def qgd (n:Nat) (b:List (List Int)) (d:Int) (c:Int):Int→Option ((Int)⊕((Int)⊕(Bool)))
  | a=>cond (decide (a<(b.length:Int))) ((get b d).bind fun x46=>(get x46 c).bind fun x58=>(get b x58).bind fun x65=>(get x65 a).bind fun x77=>(get b d).bind fun x84=>(get x84 a).bind fun x96=>(get b x96).bind fun x103=>(get b c).bind fun x115=>(get x115 a).bind fun x127=>(get x103 x127).bind fun x134=>cond (!(decide (x77=x134))) (some (.inr (.inr false))) ((chk (a+1)).bind fun z143=>some (.inl z143))) (some (.inr (.inl a)))

def qge (n:Nat) (b:List (List Int)) (c:Int):Int→Option ((Int)⊕((Int)⊕(Bool)))
  | a=>cond (decide (a<(b.length:Int))) (((loopN n (F.qgd n b c a) 0).bind fun o31=>match o31 with
    | (.inl d)=>(chk (a+1)).bind fun z147=>some (.inl z147)
    | (.inr q)=>some (.inr (.inr q)))) (some (.inr (.inl a)))

def qgf (n:Nat) (b:List (List Int)):Int→Option ((Int)⊕((Int)⊕(Bool)))
  | a=>cond (decide (a<(b.length:Int))) (((loopN n (F.qge n b a) 0).bind fun o18=>match o18 with
    | (.inl c)=>(chk (a+1)).bind fun z151=>some (.inl z151)
    | (.inr q)=>some (.inr (.inr q)))) (some (.inr (.inl a)))

def qfw (n:Nat) (a:List (List Int)):Option (Bool):=
  ((loopN n (F.qgf n a) 0).bind fun o5=>match o5 with
    | (.inl b)=>some true
    | (.inr q)=>some q)

def qip (n:Nat) (b:List (List Int)) (x28:List Int):Int→Option ((Int)⊕((Int)⊕(Bool)))
  | a=>cond (decide (a<(x28.length:Int))) ((get x28 a).bind fun x57=>cond (decide (x57<0)) (some (.inr (.inr false))) (cond (decide ((b.length:Int)≤x57)) (some (.inr (.inr false))) ((chk (a+1)).bind fun z68=>some (.inl z68)))) (some (.inr (.inl a)))

def qin (n:Nat) (b:List (List Int)):Int→Option ((Int)⊕((Int)⊕(Bool)))
  | a=>cond (decide (a<(b.length:Int))) ((get b a).bind fun x28=>cond (!(decide ((x28.length:Int)=(b.length:Int)))) (some (.inr (.inr false))) (((loopN n (F.qip n b x28) 0).bind fun o45=>match o45 with
    | (.inl c)=>(chk (a+1)).bind fun z72=>some (.inl z72)
    | (.inr q)=>some (.inr (.inr q))))) (some (.inr (.inl a)))

def qfr (n:Nat) (a:List (List Int)):Option (Bool):=
  cond (decide ((a.length:Int)<1)) (some false) (cond (decide (30<(a.length:Int))) (some false) (((loopN n (F.qin n a) 0).bind fun o16=>match o16 with
    | (.inl b)=>(F.qgl n a).bind fun y77=>cond y77 ((F.qgp n a).bind fun y81=>cond y81 ((F.qfw n a).bind fun y85=>some y85) (some false)) (some false)
    | (.inr q)=>some q)))

def qhc (n:Nat) (c:Int) (x218:List Int):Int×(List (List Int))→Option ((Int×(List (List Int)))⊕((Int×(List (List Int)))))
  | (a,b)=>cond (decide (a<(x218.length:Int))) ((get x218 a).bind fun x242=>(get b x242).bind fun x248=>(get x248 a).bind fun x262=>(chk (a+1)).bind fun z269=>some (.inl (z269,(b.set x242.toNat (x248.set a.toNat c))))) (some (.inr (a,b)))

def qfe (n:Nat) (d:List (List Int)):Int×(List (List Int))→Option ((Int×(List (List Int)))⊕((Int×(List (List Int)))))
  | (a,b)=>cond (decide (a<(d.length:Int))) ((get d a).bind fun x218=>((loopN n (F.qhc n a x218) (0,b)).bind fun o230=>match o230 with
    | (e,c)=>(chk (a+1)).bind fun z274=>some (.inl (z274,c)))) (some (.inr (a,b)))

def qec (n:Nat) (c:List (List Int)):Int×(List (List Int))→Option ((Int×(List (List Int)))⊕((Int×(List (List Int)))))
  | (a,b)=>cond (decide (a<(c.length:Int))) ((get b a).bind fun x169=>(pos (c.length:Int)).bind fun u181=>(get b a).bind fun x189=>(chk (a+1)).bind fun z200=>some (.inl (z200,(b.set a.toNat (List.replicate (c.length:Int).toNat (0:Int)))))) (some (.inr (a,b)))

def qfa (n:Nat) (c:List Int) (y15:(List Int)×Int×Int):Int×(List (Int×(Int×Int)))→Option ((Int×(List (Int×(Int×Int))))⊕((Int×(List (Int×(Int×Int))))))
  | (b,a)=>cond (decide (b<(c.length:Int))) ((get c b).bind fun x65=>(chk (4*b)).bind fun z74=>(get y15.1 z74).bind fun x76=>(chk (z74+1)).bind fun z83=>(get y15.1 z83).bind fun x85=>(chk (z74+2)).bind fun z92=>(get y15.1 z92).bind fun x94=>cond (decide (x65<0)) ((lim (a.length+([(x94,(x85,x76))]:List (Int×(Int×Int))).length)).bind fun u117=>(chk (b+1)).bind fun z125=>some (.inl (z125,(a++([(x94,(x85,x76))]:List (Int×(Int×Int))))))) ((lim (a.length+([(x76,(x85,x94))]:List (Int×(Int×Int))).length)).bind fun u133=>(chk (b+1)).bind fun z141=>some (.inl (z141,(a++([(x76,(x85,x94))]:List (Int×(Int×Int)))))))) (some (.inr (b,a)))

def qcolor_pose (n:Nat) (c:List Int) (f:List Int) (g:Int) (a:List (List Int)):Option ((List (Int×(Int×Int)))×Int×(List (List Int))×(List (List Int))×Bool):=
  (F.qih n c f g).bind fun y15=>cond (!(decide (y15.2.2=0))) (some ([],0,[],[],false)) ((F.qfr n a).bind fun y35=>cond (!y35) (some ([],0,[],[],false)) (((loopN n (F.qfa n c y15) (0,([]:List (Int×(Int×Int))))).bind fun o53=>match o53 with
    | (i,b)=>(pos (a.length:Int)).bind fun u146=>((loopN n (F.qec n a) (0,(List.replicate (a.length:Int).toNat ([]:List Int)))).bind fun o157=>match o157 with
    | (j,d)=>((loopN n (F.qfe n a) (0,d)).bind fun o206=>match o206 with
    | (h,e)=>some (b,y15.2.1,a,e,true))))))


def qgz (n:Nat) (b:Int) (a:Int):Option (Int):=
  (nz a).bind fun u4=>(chk (Int.tdiv 1099511627777 a)).bind fun z6=>cond (decide (z6<b)) (some 1099511627777) ((chk (b*a)).bind fun z11=>some z11)

def qfj (n:Nat) (y16:(List Int)×Int):Int×(List (List Int))→Option ((Int×(List (List Int)))⊕((Int×(List (List Int)))))
  | (a,b)=>cond (decide (a<(y16.1.length:Int))) ((get y16.1 a).bind fun x50=>(get b x50).bind fun x56=>(lim (x56.length+([a]:List Int).length)).bind fun u76=>(get b x50).bind fun x83=>(chk (a+1)).bind fun z93=>some (.inl (z93,(b.set x50.toNat (x56++([a]:List Int)))))) (some (.inr (a,b)))

def qhs (n:Nat) (a:List Int) (b:List Int) (c:Int):Option ((List (List Int))):=
  (F.qca n a b c).bind fun y9=>cond (!y9) (some ([])) ((F.qgi n a b c).bind fun y16=>(pos y16.2).bind fun u28=>((loopN n (F.qfj n y16) (0,(List.replicate y16.2.toNat ([]:List Int)))).bind fun o38=>match o38 with
    | (e,d)=>some d))


def qfq (n:Nat) (a:List Int):Option ((List Int)):=
  (lim (([]:List Int).length+a.length)).bind fun u16=>some (([]:List Int)++a)

def qhl (n:Nat) (a:List Int):Option (List Int):=srtF a

def qgc (n:Nat) (a:List Int):Option (List Int):=cpcF a

def qce (n:Nat) (b:Int) (c:List (Int×(Int×Int))) (d:Int):Int→Option ((Int)⊕((Int)⊕(Bool)))
  | a=>cond (decide (a<(c.length:Int))) ((get c a).bind fun x19=>cond (!(decide (a=d))) (cond (decide (x19.1=b)) (some (.inr (.inr false))) (cond (decide (x19.2.1=b)) (some (.inr (.inr false))) (cond (decide (x19.2.2=b)) (some (.inr (.inr false))) ((chk (a+1)).bind fun z45=>some (.inl z45))))) ((chk (a+1)).bind fun z47=>some (.inl z47))) (some (.inr (.inl a)))

def qdb (n:Nat) (a:Int) (b:List (Int×(Int×Int))) (c:Int):Option (Bool):=
  ((loopN n (F.qce n a b c) 0).bind fun o7=>match o7 with
    | (.inl d)=>some true
    | (.inr q)=>some q)

def qbc (n:Nat) (d:List Int) (b:List (Int×(Int×Int))) (c:Int):Int→Option ((Int)⊕((Int)⊕(Int)))
  | a=>cond (decide (a<(d.length:Int))) ((get d a).bind fun x21=>(F.qdb n x21 b c).bind fun y27=>cond y27 (some (.inr (.inr a))) ((chk (a+1)).bind fun z32=>some (.inl z32))) (some (.inr (.inl a)))

def qbp (n:Nat) (c:List Int) (a:List (Int×(Int×Int))) (b:Int):Option (Int):=
  ((loopN n (F.qbc n c a b) 0).bind fun o8=>match o8 with
    | (.inl d)=>some (-1)
    | (.inr q)=>some q)

def qbb (n:Nat) (f:List Int) (d:List (Int×(Int×Int))) (e:Int):Int×Int×(List Int)→Option ((Int×Int×(List Int))⊕((Int×Int×(List Int))))
  | (b,c,a)=>cond (decide (c<(f.length:Int))) ((get a c).bind fun x32=>(F.qdb n x32 d e).bind fun y39=>cond (!y39) ((get a b).bind fun x45=>(chk (b+1)).bind fun z52=>(chk (c+1)).bind fun z54=>some (.inl (z52,z54,(a.set b.toNat x32)))) ((chk (c+1)).bind fun z56=>some (.inl (b,z56,a)))) (some (.inr (b,c,a)))

def qbf (n:Nat) (e:List Int) (c:List (Int×(Int×Int))) (d:Int):Option ((List Int)):=
  (F.qbp n e c d).bind fun y7=>cond (decide (y7=(-1))) (some e) ((chk (y7+1)).bind fun z17=>((loopN n (F.qbb n e c d) (y7,z17,e)).bind fun o20=>match o20 with
    | (b,f,a)=>(cut b (a.length:Int) a.length).bind fun u61=>(posz ((a.length:Int)-b)).bind fun u63=>(cut 0 b (a.take b.toNat++List.replicate (a.length-b.toNat) (0:Int)).length).bind fun u67=>some ((a.take b.toNat++List.replicate (a.length-b.toNat) (0:Int)).take b.toNat)))


def qef (n:Nat) (b:List (Int×(Int×Int))) (a:Int) (c:List Int):Option ((List Int)):=
  (get b a).bind fun x11=>(F.qfq n c).bind fun y32=>(lim (y32.length+([x11.1,x11.2.1,x11.2.2]:List Int).length)).bind fun u47=>(F.qhl n (y32++([x11.1,x11.2.1,x11.2.2]:List Int))).bind fun y56=>(F.qgc n y56).bind fun y60=>(F.qbf n y60 b a).bind fun y70=>some y70

def qcx (n:Nat) (a:List (Int×(Int×Int))) (b c:Int):Option (List (Int×(Int×Int))):=delG a b c

def qem (n:Nat) (b:List (Int×(Int×Int))) (c:List Int):Int×Int×Int→Option ((Int×Int×Int)⊕((Int×Int×Int)))
  | (d,e,a)=>cond (decide (a<(b.length:Int))) ((F.qef n b a c).bind fun y24=>cond (decide (d<0)) ((chk (a+1)).bind fun z36=>some (.inl (a,(y24.length:Int),z36))) (cond (decide ((y24.length:Int)<e)) ((chk (a+1)).bind fun z39=>some (.inl (a,(y24.length:Int),z39))) ((chk (a+1)).bind fun z41=>some (.inl (d,e,z41))))) (some (.inr (d,e,a)))

def qft (n:Nat) (a:List (Int×(Int×Int))) (b:List Int):Option (Int×Int×Int×(List Int)×(List (Int×(Int×Int)))):=
  ((loopN n (F.qem n a b) ((-1),0,0)).bind fun o11=>match o11 with
    | (c,e,d)=>(get a c).bind fun x48=>(F.qef n a c b).bind fun y63=>(chk (c+1)).bind fun z78=>(F.qcx n a c z78).bind fun y80=>some (x48.1,x48.2.1,x48.2.2,y63,y80))

def qcm (n:Nat) (c:List (List Int)):Int×(List Int)→Option ((Int×(List Int))⊕((Int×(List Int))))
  | (a,b)=>cond (decide (a<(((List.replicate (c.length:Int).toNat (0:Int))).length:Int))) ((get b a).bind fun x117=>(chk (a+1)).bind fun z124=>some (.inl (z124,(b.set a.toNat a)))) (some (.inr (a,b)))

def qby (n:Nat) (b:List (List Int)) (d:List (List Int)) (a:List Int) (x22:Int) (x29:Int) (e:Bool):Option ((List Int)×(List Int)):=
  cond e ((get d x29).bind fun x72=>(chk (x22+1)).bind fun z83=>(cut x22 z83 x72.length).bind fun u85=>some (((x72.drop x22.toNat).take (z83.toNat-x22.toNat)),a)) ((pos (b.length:Int)).bind fun u95=>((loopN n (F.qcm n b) (0,(List.replicate (b.length:Int).toNat (0:Int)))).bind fun o105=>match o105 with
    | (f,c)=>some (c,a)))

def qcl (n:Nat) (b:List (List Int)) (c:List (List Int)) (a:List Int) (x15:Int) (x22:Int) (x29:Int) (d:Bool):Option ((List Int)×(List Int)):=
  cond d ((get b x15).bind fun x44=>(chk (x22+1)).bind fun z55=>(cut x22 z55 x44.length).bind fun u57=>some (((x44.drop x22.toNat).take (z55.toNat-x22.toNat)),a)) (cond (!(decide (x22=(-1)))) (F.qby n b c a x22 x29 (!(decide (x29=(-1))))) (F.qby n b c a x22 x29 false))

def qdv (n:Nat) (g:List (Int×(Int×Int))) (h:Int) (b:List (List Int)) (c:List (List Int)) (d:Int) (e:Int) (f:Int) (i:Int) (a:List Int):Option ((List Int)×(List Int)):=
  (get a d).bind fun x15=>(get a e).bind fun x22=>(get a f).bind fun x29=>cond (!(decide (x22=(-1)))) (F.qcl n b c a x15 x22 x29 (!(decide (x15=(-1))))) (F.qcl n b c a x15 x22 x29 false)

def qcs (self:Int→Int→Int→(List Int)→(List (Int×(Int×Int)))→Int→(List (List Int))→(List (List Int))→(List Int)→(List Int)→(List ((List UInt8)×Int))→Int→Option ((List Int)×(List Int)×(List ((List UInt8)×Int)))) (n:Nat) (g:Int) (h:Int) (i:Int) (j:List (Int×(Int×Int))) (k:Int) (l:List (List Int)) (m:List (List Int)) (c:List Int) (d:Int) (x30:Int) (y46:(List Int)×(List Int)):Int×(List Int)×(List Int)×(List ((List UInt8)×Int))→Option ((Int×(List Int)×(List Int)×(List ((List UInt8)×Int)))⊕((Int×(List Int)×(List Int)×(List ((List UInt8)×Int)))))
  | (a,b,e,f)=>cond (decide (a<(y46.1.length:Int))) ((get y46.1 a).bind fun x68=>(get b x30).bind fun x75=>(self g h i (b.set x30.toNat x68) j k l m c e f d).bind fun y82=>(chk (a+1)).bind fun z85=>some (.inl (z85,y82.1,y82.2.1,y82.2.2))) (some (.inr (a,b,e,f)))

def qbm (self:Int→Int→Int→(List Int)→(List (Int×(Int×Int)))→Int→(List (List Int))→(List (List Int))→(List Int)→(List Int)→(List ((List UInt8)×Int))→Int→Option ((List Int)×(List Int)×(List ((List UInt8)×Int)))) (n:Nat) (d:List Int) (b:List Int):Int×(List Int)→Option ((Int×(List Int))⊕((Int×(List Int))))
  | (a,c)=>cond (decide (a<(b.length:Int))) ((get b a).bind fun x159=>(get d x159).bind fun x167=>(get c a).bind fun x174=>(chk (a+1)).bind fun z182=>some (.inl (z182,(c.set a.toNat (w8 x167))))) (some (.inr (a,c)))

def qbe (self:Int→Int→Int→(List Int)→(List (Int×(Int×Int)))→Int→(List (List Int))→(List (List Int))→(List Int)→(List Int)→(List ((List UInt8)×Int))→Int→Option ((List Int)×(List Int)×(List ((List UInt8)×Int)))) (n:Nat) (b:Int) (c:Int) (d:Int) (i:List Int) (j:List (Int×(Int×Int))) (k:Int) (l:List (List Int)) (m:List (List Int)) (e:List Int) (f:List Int) (g:List ((List UInt8)×Int)) (h:Int):Int→Option ((Int)⊕((Int)⊕((List Int)×(List Int)×(List ((List UInt8)×Int)))))
  | a=>cond (decide (a<3)) ((get ([c,b,d]:List Int) a).bind fun x30=>(get i x30).bind fun x35=>cond (!(decide (x35=(-1)))) ((chk (a+1)).bind fun z42=>some (.inl z42)) ((F.qdv n j k l m b c d x30 i).bind fun y46=>((loopN n (F.qcs self n b c d j k l m e h x30 y46) (0,y46.2,f,g)).bind fun o56=>match o56 with
    | (r,o,p,q)=>(get o x30).bind fun x90=>some (.inr (.inr ((o.set x30.toNat (-1)),p,q)))))) (some (.inr (.inl a)))

def qau:Nat→Int→Int→Int→(List Int)→(List (Int×(Int×Int)))→Int→(List (List Int))→(List (List Int))→(List Int)→(List Int)→(List ((List UInt8)×Int))→Int→Option ((List Int)×(List Int)×(List ((List UInt8)×Int)))
  | 0,_,_,_,_,_,_,_,_,_,_,_,_=>none
  | n+1,g,h,i,b,k,l,j,m,d,c,a,e=>((loopN n (F.qbe (qau n) n g h i b k l j m d c a e) 0).bind fun o18=>match o18 with
    | (.inl o)=>(get b g).bind fun x103=>(get j x103).bind fun x110=>(get b h).bind fun x122=>(get x110 x122).bind fun x129=>(get b i).bind fun x136=>cond (!(decide (x129=x136))) (some (b,c,a)) (((loopN n (F.qbm (qau n) n b d) (0,c)).bind fun o147=>match o147 with
    | (p,f)=>(some ((gget a (f.map b8)).getD (0:Int))).bind fun x187=>(chk (x187+e)).bind fun z190=>some (b,f,(gput a (f.map b8) (min z190 1099511627777)))))
    | (.inr q)=>some q)

def qbr (n:Nat) (b:List Int):Int×(List Int)→Option ((Int×(List Int))⊕((Int×(List Int))))
  | (a,c)=>cond (decide (a<(b.length:Int))) ((get b a).bind fun x168=>(get c x168).bind fun x174=>(chk (a+1)).bind fun z181=>some (.inl (z181,(c.set x168.toNat (-1))))) (some (.inr (a,c)))

def qcd (n:Nat) (b:List Int) (d:(List UInt8)×Int):Int×(List Int)→Option ((Int×(List Int))⊕((Int×(List Int))))
  | (a,c)=>cond (decide (a<(b.length:Int))) ((get b a).bind fun x127=>(get (d.1.map ub) a).bind fun x135=>(get c x127).bind fun x137=>(chk (a+1)).bind fun z145=>some (.inl (z145,(c.set x127.toNat x135)))) (some (.inr (a,c)))

def qco (n:Nat) (l:List (Int×(Int×Int))) (m:Int) (o:List (List Int)) (p:List (List Int)) (c:Int) (d:Int) (e:Int) (a:List Int) (b:List Int):((List UInt8)×Int)→((List ((List UInt8)×Int))×(List Int)×(List Int)×Int)→Option (((List ((List UInt8)×Int))×(List Int)×(List Int)×Int)⊕(Unit))
  | f,(g,h,i,q)=>((loopN n (F.qcd n a f) (0,h)).bind fun o115=>match o115 with
    | (r,j)=>(F.qau n c d e j l m o p b i g f.2).bind fun y152=>((loopN n (F.qbr n a) (0,y152.1)).bind fun o156=>match o156 with
    | (s,k)=>some (.inl (y152.2.2,k,y152.2.1,f.2))))

def qcp (n:Nat) (c:Int):Int×(List Int)→Option ((Int×(List Int))⊕((Int×(List Int))))
  | (a,b)=>cond (decide (a<(((List.replicate c.toNat (0:Int))).length:Int))) ((get b a).bind fun x53=>(chk (a+1)).bind fun z60=>some (.inl (z60,(b.set a.toNat (-1))))) (some (.inr (a,b)))

def qed (n:Nat) (j:List (Int×(Int×Int))) (b:Int) (k:List (List Int)) (l:List (List Int)) (e:Int) (f:Int) (g:Int) (d:List Int) (a:List Int) (c:List ((List UInt8)×Int)):Option ((List ((List UInt8)×Int))):=
  (pos b).bind fun u26=>((loopN n (F.qcp n b) (0,(List.replicate b.toNat (0:Int)))).bind fun o41=>match o41 with
    | (q,h)=>(pos (a.length:Int)).bind fun u65=>(foldM (F.qco n j b k l e f g d a) (([]:List ((List UInt8)×Int)),h,(List.replicate (a.length:Int).toNat (0:Int)),0) c fun oM=>match oM with
    | .inl (i,o,p,m)=>some (mcan i)
    | .inr _=>none))

def qct (n:Nat) (d:List (Int×(Int×Int))) (e:Int) (f:List (List Int)) (g:List (List Int)):(List Int)×(List (Int×(Int×Int)))×(List ((List UInt8)×Int))→Option (((List Int)×(List (Int×(Int×Int)))×(List ((List UInt8)×Int)))⊕(((List Int)×(List (Int×(Int×Int)))×(List ((List UInt8)×Int)))))
  | (b,a,c)=>cond (decide (0<(a.length:Int))) ((F.qft n a b).bind fun y98=>(F.qed n d e f g y98.1 y98.2.1 y98.2.2.1 b y98.2.2.2.1 c).bind fun y122=>some (.inl (y98.2.2.2.1,y98.2.2.2.2,y122))) (some (.inr (b,a,c)))

def qch (n:Nat) (d:List (Int×(Int×Int))) (a:List Int):Int×(List (Int×(Int×Int)))→Option ((Int×(List (Int×(Int×Int))))⊕((Int×(List (Int×(Int×Int))))))
  | (c,b)=>cond (decide (c<(a.length:Int))) ((get a c).bind fun x36=>(get d x36).bind fun x44=>(lim (b.length+([(x44.1,(x44.2.1,x44.2.2))]:List (Int×(Int×Int))).length)).bind fun u65=>(chk (c+1)).bind fun z73=>some (.inl (z73,(b++([(x44.1,(x44.2.1,x44.2.2))]:List (Int×(Int×Int))))))) (some (.inr (c,b)))

def qes (n:Nat) (c:List (Int×(Int×Int))) (d:Int) (e:List (List Int)) (f:List (List Int)) (a:List Int):Option (Int):=
  (pos (a.length:Int)).bind fun u10=>((loopN n (F.qch n c a) (0,([]:List (Int×(Int×Int))))).bind fun o24=>match o24 with
    | (i,b)=>((loopN n (F.qct n c d e f) (([]:List Int),b,(gput ([]:List ((List UInt8)×Int)) (([]:List Int).map b8) 1))).bind fun o87=>match o87 with
    | (j,h,g)=>(some ((gget g (([]:List Int).map b8)).getD (0:Int))).bind fun x132=>some x132))

def qgm (n:Nat) (y12:(List (Int×(Int×Int)))×Int×(List (List Int))×(List (List Int))×Bool) (y72:(List (List Int))):Int×Int→Option ((Int×Int)⊕((Int×Int)))
  | (b,a)=>cond (decide (a<(y72.length:Int))) ((get y72 a).bind fun x93=>(F.qes n y12.1 y12.2.1 y12.2.2.1 y12.2.2.2.1 x93).bind fun y104=>(F.qgz n b y104).bind fun y108=>(chk (a+1)).bind fun z112=>some (.inl (y108,z112))) (some (.inr (b,a)))

def qel (n:Nat) (c:Int) (d:List (List Int)):Int×Int→Option ((Int×Int)⊕((Int×Int)))
  | (b,a)=>cond (decide (a<c)) ((F.qgz n b (d.length:Int)).bind fun y62=>(chk (a+1)).bind fun z66=>some (.inl (y62,z66))) (some (.inr (b,a)))

def qhg (n:Nat) (a:List Int) (c:List Int) (b:Int) (e:List (List Int)):Option (Int×Int):=
  (F.qcolor_pose n a c b e).bind fun y12=>cond (!y12.2.2.2.2) (some (0,1)) (cond (decide (14<(a.length:Int))) (some (0,5)) (((loopN n (F.qel n b e) (1,0)).bind fun o51=>match o51 with
    | (f,g)=>(F.qhs n a c b).bind fun y72=>((loopN n (F.qgm n y12 y72) (f,0)).bind fun o81=>match o81 with
    | (d,h)=>cond (decide (1099511627776<d)) (some (0,5)) (some (d,0))))))


def qej (n:Nat) (b:List Int) (d:List Int) (c:Int) (e:Int) (a:List Int):Option (Bool):=
  (F.qhn n).bind fun y10=>cond (!y10) (some false) (cond (decide (7<(b.length:Int))) (some true) (cond (decide (2<c)) (some true) (cond (decide (4<e)) (some true) (cond (decide (10<(a.length:Int))) (some true) ((F.qca n b d c).bind fun y25=>cond (!y25) (some true) ((F.qdx n e a).bind fun y32=>cond (!(decide (y32.2=0))) (some true) (cond (decide ((y32.1.length:Int)=0)) (some true) ((F.qfg n y32.1).bind fun y50=>(F.qic n b d c).bind fun y65=>(F.qgn n y65.1 y65.2.1 y65.2.2.1 e a).bind fun y88=>(F.qhg n b d c y50.1).bind fun y94=>cond (decide (y88.2=13)) (some true) (cond (decide (y50.2=0)) (cond (decide (y65.2.2.2=0)) (cond (decide (y88.2=0)) (cond (decide (y94.2=0)) (some (decide (y88.1=y94.1))) (some false)) (some false)) (some false)) (some false))))))))))
