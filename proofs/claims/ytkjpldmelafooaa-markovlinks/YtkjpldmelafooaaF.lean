import Derived.Test.YtkjpldmelafooaaRun
import Derived.Test.YtkjpldmelafooaaShort
import Derived.Test.YtkjpldmelafooaaIns
import Derived.Test.YtkjpldmelafooaaSort
import Derived.Test.YtkjpldmelafooaaSortK
import Derived.Test.YtkjpldmelafooaaArr
import Derived.Test.YtkjpldmelafooaaCut
import Derived.Test.YtkjpldmelafooaaNil
import Derived.Test.YtkjpldmelafooaaStr
import Derived.Test.YtkjpldmelafooaaGmp
import Derived.Test.YtkjpldmelafooaaGrg
set_option linter.all false
namespace Go.Proofs.Ytkjpldmelafooaa
open Ev
namespace F
noncomputable section
def qfr (n:Nat) (b:Int) (c:List Int):Int→Option ((Int)⊕((Int)⊕(Bool)))
  | a=>cond (decide (a<(c.length:Int))) ((get c a).bind fun x29=>cond (decide (x29=0)) (some (.inr (.inr false))) ((chk (-b)).bind fun z38=>cond (decide (x29≤z38)) (some (.inr (.inr false))) (cond (decide (b≤x29)) (some (.inr (.inr false))) ((chk (a+1)).bind fun z44=>some (.inl z44))))) (some (.inr (.inl a)))

def qgm (n:Nat) (a:Int) (b:List Int):Option (Bool):=
  cond (decide (a<1)) (some false) (cond (decide (10<a)) (some false) (cond (decide (200<(b.length:Int))) (some false) (((loopN n (F.qfr n a b) 0).bind fun o17=>match o17 with
    | (.inl c)=>some true
    | (.inr q)=>some q))))

def qed (n:Nat) (d:List Int) (b:Int) (c:Int) (a:Int) (e:Bool):Option (Bool):=
  cond (decide (b=1)) (cond e (cond (decide (a=0)) (some true) (some (decide (a=1)))) (some false)) (cond (decide (b=2)) (cond (decide (c=1)) (some (decide (a=0))) (cond (decide (c=(-1))) (some (decide (a=0))) (some false))) (cond (decide (b=3)) (cond (decide (c=0)) (some (decide (a=0))) (some false)) (cond (decide (b=6)) (cond e (cond (decide (0≤a)) (some (decide (a≤(d.length:Int)))) (some false)) (some false)) (cond (decide (c=0)) (cond (decide (0≤a)) (some (decide (a<(d.length:Int)))) (some false)) (some false)))))

def qfl (n:Nat) (e:Int) (b:List Int) (c:Int) (a:Int) (d:Int):Option (Bool):=
  cond (!(decide (a=0))) ((chk (-e)).bind fun z11=>cond (decide (z11<a)) (F.qed n b c a d (decide (a<e))) (F.qed n b c a d false)) (F.qed n b c a d false)


def qfy (n:Nat) (a:Int):Option (Int):=
  (chk (-a)).bind fun z3=>some (max a z3)


def qgk (n:Nat) (a:Int) (b:Int) (c:List Int):Option (Bool):=
  (F.qfy n a).bind fun y7=>(chk (b-1)).bind fun z11=>some (decide (y7=z11))

def qbo (n:Nat) (d:List Int) (b:Int) (c:List Int):Int→Option ((Int)⊕((Int)⊕(Int)))
  | a=>cond (decide (a<(d.length:Int))) ((get d a).bind fun x20=>(F.qgk n x20 b c).bind fun y26=>cond y26 (some (.inr (.inr a))) ((chk (a+1)).bind fun z31=>some (.inl z31))) (some (.inr (.inl a)))

def qbp (n:Nat) (c:List Int) (a:Int) (b:List Int):Option (Int):=
  ((loopN n (F.qbo n c a b) 0).bind fun o7=>match o7 with
    | (.inl d)=>some (-1)
    | (.inr q)=>some q)


def qbk (n:Nat) (d:Int) (a:List Int) (c:Int) (e:Int) (b:Int):Option (Bool):=
  cond (decide (c=1)) (cond (decide (b=0)) (some true) (cond (decide (2≤(a.length:Int))) ((get a 0).bind fun x20=>(chk (-e)).bind fun z27=>cond (decide (x20=z27)) ((chk ((a.length:Int)-1)).bind fun z30=>(get a z30).bind fun x32=>some (decide (x32=e))) (some false)) (some false))) (cond (decide (c=3)) (cond (decide (2≤d)) (cond (decide (1≤(a.length:Int))) ((F.qbp n a d a).bind fun y45=>(chk ((a.length:Int)-1)).bind fun z49=>some (decide (y45=z49))) (some false)) (some false)) (cond (decide (c=4)) ((chk (b+1)).bind fun z56=>cond (decide (z56<(a.length:Int))) ((get a b).bind fun x59=>(F.qfy n x59).bind fun y66=>(chk (b+1)).bind fun z70=>(get a z70).bind fun x72=>(F.qfy n x72).bind fun y79=>(chk (y66-y79)).bind fun z83=>(F.qfy n z83).bind fun y85=>some (decide (2≤y85))) (some false)) (cond (decide (c=5)) ((chk (b+2)).bind fun z93=>cond (decide ((a.length:Int)≤z93)) (some false) ((get a b).bind fun x101=>(chk (b+1)).bind fun z108=>(get a z108).bind fun x110=>(chk (b+2)).bind fun z119=>(get a z119).bind fun x121=>cond (decide (x121=x101)) (cond ((decide (0<x101)) == (decide (0<x110))) ((chk (x101-x110)).bind fun z129=>(F.qfy n z129).bind fun y131=>some (decide (y131=1))) (some false)) (some false))) (cond (decide (c=7)) ((chk (b+1)).bind fun z140=>cond (decide (z140<(a.length:Int))) ((chk (b+1)).bind fun z143=>(get a z143).bind fun x145=>(get a b).bind fun x152=>(chk (-x152)).bind fun z159=>some (decide (x145=z159))) (some false)) (some true)))))


def qcm (n:Nat) (a:List Int):Option ((List Int)):=
  (lim (([]:List Int).length+a.length)).bind fun u16=>some (([]:List Int)++a)


def qda (n:Nat) (a:Int):Option ((List Int)):=
  cond (decide (a<0)) (none) ((chk (0-0)).bind fun z7=>(chk (a-z7)).bind fun z9=>cond (decide (0<z9)) ((posz z9).bind fun u14=>(cut 0 0 (List.replicate z9.toNat (0:Int)).length).bind fun u22=>some ((List.replicate z9.toNat (0:Int)).take (0:Int).toNat)) (some ([])))

def qcj (n:Nat) (b:List (List Int)):(List Int)×Int→Option (((List Int)×Int)⊕(((List Int)×Int)))
  | (c,a)=>cond (decide (a<(b.length:Int))) ((get b a).bind fun x63=>(lim (c.length+x63.length)).bind fun u74=>(chk (a+1)).bind fun z81=>some (.inl ((c++x63),z81))) (some (.inr (c,a)))

def qcq (n:Nat) (b:List (List Int)):Int×Int→Option ((Int×Int)⊕((Int×Int)))
  | (c,a)=>cond (decide (a<(b.length:Int))) ((get b a).bind fun x18=>(chk (c+(x18.length:Int))).bind fun z30=>cond (decide (z30<0)) (none) ((chk (a+1)).bind fun z35=>some (.inl (z30,z35)))) (some (.inr (c,a)))

def qej (n:Nat) (a:List (List Int)):Option ((List Int)):=
  ((loopN n (F.qcq n a) (0,0)).bind fun o6=>match o6 with
    | (b,d)=>(F.qda n b).bind fun y40=>((loopN n (F.qcj n a) (y40,0)).bind fun o51=>match o51 with
    | (c,e)=>some c))

def qhh (n:Nat) (a:List Int) (b:Int) (c:List Int):Option (List Int):=insF a b c

def qhe (n:Nat) (a:List Int) (b c:Int):Option (List Int):=delF a b c

def qco (n:Nat) (d:List Int) (e:Int) (a:Int) (b:Int) (c:Int):Option (Int×(List Int)×Int×Int×Int):=
  some (e,d,a,b,c)

def qbq (n:Nat) (b:Int) (e:List Int) (c:Int) (d:Int) (a:Int):Option (Int×(List Int)×Int×Int×Int):=
  (F.qcm n e).bind fun y18=>cond (decide (c=1)) (cond (decide (a=0)) ((chk (-d)).bind fun z48=>(F.qej n ([([d]:List Int),y18,([z48]:List Int)]:List (List Int))).bind fun y62=>(chk (-d)).bind fun z72=>(chk (1-a)).bind fun z74=>F.qco n y62 b 1 z72 z74) ((chk ((e.length:Int)-1)).bind fun z77=>(cut 1 z77 y18.length).bind fun u79=>(chk (-d)).bind fun z88=>(chk (1-a)).bind fun z90=>F.qco n ((y18.drop (1:Int).toNat).take (z77.toNat-(1:Int).toNat)) b 1 z88 z90)) (cond (decide (c=2)) ((chk (d*b)).bind fun z97=>(lim (y18.length+([z97]:List Int).length)).bind fun u105=>(chk (b+1)).bind fun z113=>F.qco n (y18++([z97]:List Int)) z113 3 0 0) (cond (decide (c=3)) ((chk ((e.length:Int)-1)).bind fun z122=>(get y18 z122).bind fun x124=>cond (decide (x124<0)) ((chk ((e.length:Int)-1)).bind fun z134=>(cut 0 z134 y18.length).bind fun u136=>(chk (b-1)).bind fun z140=>F.qco n (y18.take z134.toNat) z140 2 (-1) 0) ((chk ((e.length:Int)-1)).bind fun z143=>(cut 0 z143 y18.length).bind fun u145=>(chk (b-1)).bind fun z149=>F.qco n (y18.take z143.toNat) z149 2 1 0)) (cond (decide (c=4)) ((chk (a+1)).bind fun z155=>(chk (a+1)).bind fun z157=>(get y18 z157).bind fun x159=>(get y18 a).bind fun x166=>(get y18 a).bind fun x173=>(get (y18.set a.toNat x159) z155).bind fun x181=>F.qco n ((y18.set a.toNat x159).set z155.toNat x166) b c d a) (cond (decide (c=5)) ((get y18 a).bind fun x193=>(chk (a+1)).bind fun z200=>(get y18 z200).bind fun x202=>(chk (a+1)).bind fun z212=>(chk (a+2)).bind fun z214=>(get y18 a).bind fun x216=>(get (y18.set a.toNat x202) z212).bind fun x224=>(get ((y18.set a.toNat x202).set z212.toNat x193) z214).bind fun x231=>F.qco n (((y18.set a.toNat x202).set z212.toNat x193).set z214.toNat x202) b c d a) (cond (decide (c=6)) ((chk (-d)).bind fun z241=>(F.qhh n y18 a ([d,z241]:List Int)).bind fun y249=>F.qco n y249 b 7 0 a) (cond (decide (c=7)) ((get y18 a).bind fun x266=>(chk (a+2)).bind fun z274=>(F.qhe n y18 a z274).bind fun y276=>F.qco n y276 b 6 x266 a) (F.qco n y18 b c d a)))))))


def qbx (n:Nat) (b:Int) (c:List Int) (a:Int) (d:Int) (e:Int):Option (Int×(List Int)×Int×Int×Int×Int):=
  (F.qgm n b c).bind fun y17=>cond (!y17) (some (0,[],0,0,0,1)) (cond (decide (a<1)) (some (0,[],0,0,0,11)) (cond (decide (7<a)) (some (0,[],0,0,0,11)) ((F.qfl n b c a d e).bind fun y41=>cond (!y41) (some (0,[],0,0,0,2)) ((F.qbk n b c a d e).bind fun y51=>cond (!y51) (some (0,[],0,0,0,6)) ((F.qbq n b c a d e).bind fun y60=>cond (decide (10<y60.1)) (some (0,[],0,0,0,5)) (cond (decide (200<(y60.2.1.length:Int))) (some (0,[],0,0,0,5)) (some (y60.1,y60.2.1,y60.2.2.1,y60.2.2.2.1,y60.2.2.2.2,0))))))))

def qev (n:Nat) (b:List Int) (c:List Int):Int→Option ((Int)⊕((Int)⊕(Bool)))
  | a=>cond (decide (a<(b.length:Int))) ((get b a).bind fun x33=>(get c a).bind fun x40=>cond (!(decide (x33=x40))) (some (.inr (.inr false))) ((chk (a+1)).bind fun z49=>some (.inl z49))) (some (.inr (.inl a)))

def ref36_Equal (n:Nat) (c:Int) (a:List Int) (d:Int) (b:List Int):Option (Bool):=
  cond (!(decide (c=d))) (some false) (cond (!(decide ((a.length:Int)=(b.length:Int)))) (some false) (((loopN n (F.qev n a b) 0).bind fun o19=>match o19 with
    | (.inl e)=>some true
    | (.inr q)=>some q)))


def law36_equal (n:Nat) (a:Int) (b:List Int) (c:Int) (d:List Int):Option (Bool):=
  (F.ref36_Equal n a b c d).bind fun y11=>some y11


def law36_awake (n:Nat):Option (Bool):=
  (F.qbx n 3 ([1,2,1]:List Int) 5 0 0).bind fun y9=>(F.qbx n 1 ([]) 2 (-1) 0).bind fun y33=>cond (decide (y9.2.2.2.2.2=0)) (cond (decide (y33.2.2.2.2.2=0)) (cond (decide (y9.2.2.1=5)&&(decide (y9.2.2.2.1=0)&&(decide (y9.2.2.2.2.1=0)&&true))) ((F.law36_equal n y9.1 y9.2.1 3 ([2,1,2]:List Int)).bind fun y66=>cond y66 ((F.law36_equal n y33.1 y33.2.1 2 ([(-1)]:List Int)).bind fun y76=>some y76) (some false)) (some false)) (some false)) (some false)


def qhd (n:Nat) (a:Int):Option (Int):=
  (chk (-a)).bind fun z3=>some (max a z3)


def qfn (n:Nat) (a:Int) (b:Int) (d:List Int) (c:List Int) (e:Int):Option ((List Int)):=
  (get c a).bind fun x6=>(get (c.set a.toNat b) b).bind fun x14=>some ((c.set a.toNat b).set b.toNat a)


def qfs (n:Nat) (a:Int) (h:Int) (g:Int) (b:List Int) (d:List Int) (e:List Int) (c:List Int) (f:Int):Option ((List Int)×(List Int)×(List Int)):=
  (get b a).bind fun x11=>cond (decide (x11<0)) ((get d a).bind fun x18=>(get b a).bind fun x25=>some ((b.set a.toNat g),(d.set a.toNat h),c)) ((get b a).bind fun x34=>(F.qfn n x34 h e c f).bind fun y41=>(get b a).bind fun x46=>some ((b.set a.toNat g),d,y41))

def qgv (n:Nat) (b:Int) (k:List Int) (a:List Int) (c:List Int) (d:List Int) (e:Int) (j:Int) (f:Int) (g:Int) (h:Int) (i:Int):Option ((Int×(List Int)×(List Int)×(List Int)×(List Int))⊕((Int×(List Int)×(List Int)×(List Int)×(List Int)))):=
  (chk (j-1)).bind fun z631=>(chk (4*b)).bind fun z633=>(chk (z633+f)).bind fun z635=>(chk (4*b)).bind fun z637=>(chk (z637+i)).bind fun z639=>(F.qfs n z631 z635 z639 d c (a++([e]:List Int)) k 0).bind fun y641=>(chk (4*b)).bind fun z645=>(chk (z645+g)).bind fun z647=>(chk (4*b)).bind fun z649=>(chk (z649+h)).bind fun z651=>(F.qfs n j z647 z651 y641.1 y641.2.1 (a++([e]:List Int)) y641.2.2 0).bind fun y653=>(chk (b+1)).bind fun z656=>some (.inl (z656,y653.2.2,(a++([e]:List Int)),y653.2.1,y653.1))

def qfv (n:Nat) (f:Int) (e:List Int) (a:List Int) (b:List Int) (c:List Int) (x570:Int) (d:Int) (g:Bool):Option ((Int×(List Int)×(List Int)×(List Int)×(List Int))⊕((Int×(List Int)×(List Int)×(List Int)×(List Int)))):=
  (lim (a.length+([d]:List Int).length)).bind fun u589=>(chk (d+1)).bind fun z600=>(nz 2).bind fun u602=>(chk (Int.tdiv z600 2)).bind fun z604=>(get ([(0,(1,(2,3))),(3,(0,(1,2)))]:List (Int×(Int×(Int×Int)))) z604).bind fun x606=>(F.qhd n x570).bind fun y612=>F.qgv n f e a b c d y612 x606.1 x606.2.1 x606.2.2.1 x606.2.2.2

def qet (n:Nat) (g:List Int) (f:List Int) (e:List Int) (c:List Int):Int×(List Int)×Int→Option ((Int×(List Int)×Int)⊕((Int×(List Int)×Int)))
  | (a,d,b)=>cond (decide (a<(g.length:Int))) ((get c a).bind fun x675=>cond (decide (x675<0)) ((chk (b+1)).bind fun z682=>(chk (a+1)).bind fun z685=>some (.inl (z685,d,z682))) ((get c a).bind fun x689=>(get e a).bind fun x696=>(F.qfn n x689 x696 f d b).bind fun y703=>(chk (a+1)).bind fun z707=>some (.inl (z707,y703,b)))) (some (.inr (a,d,b)))

def qek (n:Nat) (f:List Int):Int×(List Int)×(List Int)×(List Int)×(List Int)→Option ((Int×(List Int)×(List Int)×(List Int)×(List Int))⊕((Int×(List Int)×(List Int)×(List Int)×(List Int))))
  | (d,e,c,a,b)=>cond (decide (d<(f.length:Int))) ((get f d).bind fun x570=>cond (decide (x570<0)) (F.qfv n d e c a b x570 (-1) (decide (x570<0))) (F.qfv n d e c a b x570 1 (decide (x570<0)))) (some (.inr (d,e,c,a,b)))

def qer (n:Nat) (d:List Int):Int×(List Int)×(List Int)→Option ((Int×(List Int)×(List Int))⊕((Int×(List Int)×(List Int))))
  | (a,b,c)=>cond (decide (a<(d.length:Int))) ((get b a).bind fun x529=>(get c a).bind fun x537=>(chk (a+1)).bind fun z545=>some (.inl (z545,(b.set a.toNat (-1)),(c.set a.toNat (-1))))) (some (.inr (a,b,c)))

def qhq (n:Nat) (k:List Int) (z33:Int) (a:List Int) (h:List Int):Option ((List Int)×(List Int)×Int×Int):=
  ((loopN n (F.qer n a) (0,a,h)).bind fun o515=>match o515 with
    | (m,c,d)=>((loopN n (F.qek n k) (0,(List.replicate z33.toNat (0:Int)),([]:List Int),c,d)).bind fun o558=>match o558 with
    | (o,i,b,e,f)=>((loopN n (F.qet n a b e f) (0,i,0)).bind fun o662=>match o662 with
    | (l,j,g)=>some (b,j,g,0))))

def qgi (n:Nat) (a:Int) (b:List Int):Option ((List Int)×(List Int)×Int×Int):=
  (F.qgm n a b).bind fun y11=>cond (!y11) (some ([],[],0,1)) (cond (decide (64<(b.length:Int))) (some ([],[],0,5)) ((chk (4*(b.length:Int))).bind fun z33=>(pos z33).bind fun u35=>(pos a).bind fun u51=>(pos a).bind fun u59=>F.qhq n b z33 (List.replicate a.toNat (0:Int)) (List.replicate a.toNat (0:Int))))


def qep (n:Nat) (b:List Int) (c:List Int) (d:Int) (a:Int):Option (Bool):=
  (nz 4).bind fun u9=>cond (decide ((Int.tmod a 4)=1)) ((nz 4).bind fun u14=>(chk (Int.tdiv a 4)).bind fun z16=>(get b z16).bind fun x18=>some (decide (x18=1))) (cond (decide ((Int.tmod a 4)=2)) (some true) (cond (decide ((Int.tmod a 4)=3)) ((nz 4).bind fun u31=>(chk (Int.tdiv a 4)).bind fun z33=>(get b z33).bind fun x35=>some (decide (x35=(-1)))) (some false)))

def qfp (n:Nat) (d:List Int) (e:Int) (x96:Int):(List Int)×Int×(List Int)→Option (((List Int)×Int×(List Int))⊕(((List Int)×Int×(List Int))))
  | (c,b,a)=>cond (decide (b<4)) ((chk (4*x96)).bind fun z125=>(chk (z125+b)).bind fun z127=>(get d z127).bind fun x129=>(nz 4).bind fun u135=>(chk (Int.tdiv x129 4)).bind fun z137=>(get a z137).bind fun x141=>cond (decide (x141<0)) ((get a z137).bind fun x149=>(lim (c.length+([z137]:List Int).length)).bind fun u162=>(chk (b+1)).bind fun z169=>some (.inl ((c++([z137]:List Int)),z169,(a.set z137.toNat e)))) ((chk (b+1)).bind fun z171=>some (.inl (c,z171,a)))) (some (.inr (c,b,a)))

def qen (n:Nat) (d:List Int) (e:Int):(List Int)×(List Int)→Option (((List Int)×(List Int))⊕(((List Int)×(List Int))))
  | (a,b)=>cond (decide (0<(a.length:Int))) ((get a 0).bind fun x96=>(cut 1 (a.length:Int) a.length).bind fun u103=>((loopN n (F.qfp n d e x96) ((a.drop (1:Int).toNat),0,b)).bind fun o112=>match o112 with
    | (f,g,c)=>some (.inl (f,c)))) (some (.inr (a,b)))

def qel (n:Nat) (e:List Int) (f:List Int):Int×Int×(List Int)→Option ((Int×Int×(List Int))⊕((Int×Int×(List Int))))
  | (c,a,b)=>cond (decide (a<(((List.replicate (e.length:Int).toNat (0:Int))).length:Int))) ((get b a).bind fun x59=>cond (decide (0≤x59)) ((chk (a+1)).bind fun z66=>some (.inl (c,z66,b))) ((get b a).bind fun x69=>((loopN n (F.qen n f c) (([a]:List Int),(b.set a.toNat c))).bind fun o85=>match o85 with
    | (g,d)=>(chk (c+1)).bind fun z177=>(chk (a+1)).bind fun z179=>some (.inl (z177,z179,d))))) (some (.inr (c,a,b)))

def qfw (n:Nat) (c:List Int):Int×(List Int)→Option ((Int×(List Int))⊕((Int×(List Int))))
  | (a,b)=>cond (decide (a<(((List.replicate (c.length:Int).toNat (0:Int))).length:Int))) ((get b a).bind fun x31=>(chk (a+1)).bind fun z38=>some (.inl (z38,(b.set a.toNat (-1))))) (some (.inr (a,b)))

def qhr (n:Nat) (a:List Int) (d:List Int) (f:Int):Option ((List Int)×Int):=
  (pos (a.length:Int)).bind fun u8=>((loopN n (F.qfw n a) (0,(List.replicate (a.length:Int).toNat (0:Int)))).bind fun o19=>match o19 with
    | (g,b)=>((loopN n (F.qel n a d) (0,0,b)).bind fun o45=>match o45 with
    | (e,h,c)=>some (c,e)))


def qdt (n:Nat) (a:Int) (b:Int):Option (Int):=
  cond (decide (a<0)) (some (-1)) ((nz 4).bind fun u7=>(chk (a-(Int.tmod a 4))).bind fun z9=>(nz 4).bind fun u11=>(nz 4).bind fun u13=>(chk ((Int.tmod a 4)+(Int.tmod b 4))).bind fun z15=>(chk (z15+4)).bind fun z17=>(nz 4).bind fun u19=>(chk (z9+(Int.tmod z17 4))).bind fun z21=>some z21)

def qeb (n:Nat) (c:List Int):Int×(List Bool)→Option ((Int×(List Bool))⊕((Int×(List Bool))))
  | (a,b)=>(get b a).bind fun x138=>cond (!x138) ((get b a).bind fun x146=>(get c a).bind fun x153=>(F.qdt n x153 (-1)).bind fun y159=>some (.inl (y159,(b.set a.toNat true)))) (some (.inr (a,b)))

def qdy (n:Nat) (y8:(List Int)×Int) (b:List Int):Int→Option ((Int)⊕((Int)⊕(Bool)))
  | a=>cond (decide (a<(((List.replicate y8.2.toNat (0:Int))).length:Int))) ((get b a).bind fun x183=>cond (!(decide (x183=2))) (some (.inr (.inr false))) ((chk (a+1)).bind fun z192=>some (.inl z192))) (some (.inr (.inl a)))

def qec (n:Nat) (d:List Int) (y8:(List Int)×Int):Int×(List Int)×(List Bool)→Option ((Int×(List Int)×(List Bool))⊕((Int×(List Int)×(List Bool))))
  | (a,b,c)=>cond (decide (a<(d.length:Int))) ((get c a).bind fun x92=>cond x92 ((chk (a+1)).bind fun z99=>some (.inl (z99,b,c))) ((nz 4).bind fun u102=>(chk (Int.tdiv a 4)).bind fun z104=>(get y8.1 z104).bind fun x106=>(get b x106).bind fun x112=>(chk (x112+1)).bind fun z118=>(get b x106).bind fun x120=>((loopN n (F.qeb n d) (a,c)).bind fun o129=>match o129 with
    | (f,e)=>(chk (a+1)).bind fun z165=>some (.inl (z165,(b.set x106.toNat z118),e))))) (some (.inr (a,b,c)))

def qdz (n:Nat) (y8:(List Int)×Int):Int×(List Int)→Option ((Int×(List Int))⊕((Int×(List Int))))
  | (b,a)=>cond (decide (b<(y8.1.length:Int))) ((get y8.1 b).bind fun x42=>(get a x42).bind fun x48=>(chk (x48-1)).bind fun z54=>(get a x42).bind fun x56=>(chk (b+1)).bind fun z63=>some (.inl (z63,(a.set x42.toNat z54)))) (some (.inr (b,a)))

def qee (n:Nat) (d:List Int) (a:List Int) (e:Int):Option (Bool):=
  (F.qhr n d a e).bind fun y8=>(pos y8.2).bind fun u19=>((loopN n (F.qdz n y8) (0,(List.replicate y8.2.toNat (0:Int)))).bind fun o30=>match o30 with
    | (g,b)=>(pos (a.length:Int)).bind fun u68=>((loopN n (F.qec n a y8) (0,b,(List.replicate (a.length:Int).toNat false))).bind fun o78=>match o78 with
    | (h,c,f)=>((loopN n (F.qdy n y8 c) 0).bind fun o171=>match o171 with
    | (.inl i)=>some true
    | (.inr q)=>some q)))

def qeo (n:Nat) (c:List Int) (b:List Int) (d:Int):Int→Option ((Int)⊕((Int)⊕(Bool)))
  | a=>cond (decide (a<(b.length:Int))) ((get b a).bind fun x65=>cond (decide (x65<0)) (some (.inr (.inr false))) ((chk (4*(c.length:Int))).bind fun z75=>cond (decide (z75≤x65)) (some (.inr (.inr false))) (cond (decide (x65=a)) (some (.inr (.inr false))) ((get b x65).bind fun x81=>cond (!(decide (x81=a))) (some (.inr (.inr false))) ((F.qep n c b d a).bind fun y93=>(F.qep n c b d x65).bind fun y96=>cond (y93 == y96) (some (.inr (.inr false))) ((chk (a+1)).bind fun z101=>some (.inl z101))))))) (some (.inr (.inl a)))

def qdr (n:Nat) (b:List Int):Int→Option ((Int)⊕((Int)⊕(Bool)))
  | a=>cond (decide (a<(b.length:Int))) ((get b a).bind fun x35=>cond (!(decide (x35=1))) (cond (!(decide (x35=(-1)))) (some (.inr (.inr false))) ((chk (a+1)).bind fun z45=>some (.inl z45))) ((chk (a+1)).bind fun z47=>some (.inl z47))) (some (.inr (.inl a)))

def qdx (n:Nat) (a:List Int) (c:List Int) (b:Int):Option (Bool):=
  cond (decide (64<(a.length:Int))) (some false) ((chk (4*(a.length:Int))).bind fun z12=>cond (!(decide ((c.length:Int)=z12))) (some false) (cond (decide (b<0)) (some false) (cond (decide (64<b)) (some false) (((loopN n (F.qdr n a) 0).bind fun o23=>match o23 with
    | (.inl d)=>((loopN n (F.qeo n a c b) 0).bind fun o53=>match o53 with
    | (.inl e)=>(F.qee n a c b).bind fun y106=>some y106
    | (.inr q)=>some q)
    | (.inr q)=>some q)))))


def qgd (n:Nat) (d:Int) (a:List Int) (b:List Int) (c:Int):Option (Bool):=
  (F.qep n a b c d).bind fun y6=>some y6


def qho (n:Nat) (a:Int):Option (Int):=
  (F.qdt n a 2).bind fun y3=>some y3


def qfa (n:Nat) (b:Int) (c:List Int) (a:List Int) (d:Int):Option (Int):=
  (get a b).bind fun x6=>(F.qho n x6).bind fun y12=>some y12

def qcc (n:Nat) (f:Int) (b:List Int) (c:List Int) (d:Int):(List Int)×Int→Option (((List Int)×Int)⊕(((List Int)×Int)))
  | (e,a)=>cond (!(decide (a=f))) ((lim (e.length+([a]:List Int).length)).bind fun u35=>(F.qfa n a b c d).bind fun y42=>some (.inl ((e++([a]:List Int)),y42))) (some (.inr (e,a)))

def qct (n:Nat) (d:Int) (a:List Int) (b:List Int) (c:Int):Option ((List Int)):=
  (F.qfa n d a b c).bind fun y14=>((loopN n (F.qcc n d a b c) (([d]:List Int),y14)).bind fun o18=>match o18 with
    | (e,f)=>some e)

def qbd (n:Nat) (y49:(List Int)):Int×(List Bool)→Option ((Int×(List Bool))⊕((Int×(List Bool))))
  | (a,b)=>cond (decide (a<(y49.length:Int))) ((get y49 a).bind fun x72=>(get b x72).bind fun x78=>(chk (a+1)).bind fun z85=>some (.inl (z85,(b.set x72.toNat true)))) (some (.inr (a,b)))

def qbc (n:Nat) (g:Int) (b:List Int) (c:List Int) (d:Int):(List (List Int))×Int×(List Bool)→Option (((List (List Int))×Int×(List Bool))⊕(((List (List Int))×Int×(List Bool))))
  | (f,a,e)=>cond (decide (a<g)) ((get e a).bind fun x32=>cond x32 ((chk (a+1)).bind fun z39=>some (.inl (f,z39,e))) ((F.qgd n a b c d).bind fun y41=>cond (!y41) ((chk (a+1)).bind fun z45=>some (.inl (f,z45,e))) ((F.qct n a b c d).bind fun y49=>((loopN n (F.qbd n y49) (0,e)).bind fun o60=>match o60 with
    | (i,h)=>(lim (f.length+([y49]:List (List Int)).length)).bind fun u95=>(chk (a+1)).bind fun z102=>some (.inl ((f++([y49]:List (List Int))),z102,h)))))) (some (.inr (f,a,e)))

def qbt (n:Nat) (a:Int) (b:List Int) (c:List Int) (d:Int):Option ((List (List Int))):=
  (pos a).bind fun u7=>((loopN n (F.qbc n a b c d) (([]:List (List Int)),0,(List.replicate a.toNat false))).bind fun o18=>match o18 with
    | (e,g,f)=>some e)


def qgf (n:Nat) (b:List Int) (a:List Int) (c:Int):Option ((List (List Int))):=
  (F.qdx n b a c).bind fun y9=>cond (!y9) (some ([])) ((F.qbt n (a.length:Int) b a c).bind fun y17=>some y17)


def qds (n:Nat) (b:List Int) (c:List Int) (a:Int):Option (Int):=
  (F.qdx n b c a).bind fun y9=>cond (!y9) (some 0) ((F.qgf n b c a).bind fun y17=>(chk ((y17.length:Int)+a)).bind fun z26=>some z26)

def qcd (n:Nat) (x47:List Int):Int×(List Bool)→Option ((Int×(List Bool))⊕((Int×(List Bool))⊕(Int×Bool)))
  | (b,a)=>cond (decide (b<(x47.length:Int))) ((get x47 b).bind fun x71=>(nz 4).bind fun u79=>(chk (Int.tdiv x71 4)).bind fun z81=>(get a z81).bind fun x83=>cond (!x83) ((nz 2).bind fun u90=>cond (decide ((Int.tmod x71 2)=0)) ((nz 4).bind fun u95=>(chk (Int.tdiv x71 4)).bind fun z97=>some (.inr (.inr (z97,false)))) ((nz 4).bind fun u99=>(chk (Int.tdiv x71 4)).bind fun z101=>(get a z101).bind fun x103=>(chk (b+1)).bind fun z110=>some (.inl (z110,(a.set z101.toNat true))))) ((nz 4).bind fun u113=>(chk (Int.tdiv x71 4)).bind fun z115=>(get a z115).bind fun x117=>(chk (b+1)).bind fun z124=>some (.inl (z124,(a.set z115.toNat true))))) (some (.inr (.inl (b,a))))

def qbs (n:Nat) (y26:(List (List Int))):Int×(List Bool)→Option ((Int×(List Bool))⊕((Int×(List Bool))⊕(Int×Bool)))
  | (a,b)=>cond (decide (a<(y26.length:Int))) ((get y26 a).bind fun x47=>((loopN n (F.qcd n x47) (0,b)).bind fun o59=>match o59 with
    | (.inl (d,c))=>(chk (a+1)).bind fun z128=>some (.inl (z128,c))
    | (.inr q)=>some (.inr (.inr q)))) (some (.inr (.inl (a,b))))

def qcx (n:Nat) (a:List Int) (b:List Int) (c:Int):Option (Int×Bool):=
  (F.qdx n a b c).bind fun y9=>cond (!y9) (some ((-1),false)) ((pos (a.length:Int)).bind fun u15=>(F.qgf n a b c).bind fun y26=>((loopN n (F.qbs n y26) (0,(List.replicate (a.length:Int).toNat false))).bind fun o35=>match o35 with
    | (.inl (e,d))=>some ((-1),true)
    | (.inr q)=>some q))

def qfh (n:Nat) (d:List Int) (c:Int) (e:Int):Int×(List Int)→Option ((Int×(List Int))⊕((Int×(List Int))))
  | (b,a)=>cond (decide (b<4)) ((chk (4*e)).bind fun z69=>(chk (z69+b)).bind fun z71=>(get d z71).bind fun x73=>(nz 4).bind fun u82=>(chk (Int.tdiv x73 4)).bind fun z84=>cond (decide (c<z84)) ((chk (x73-4)).bind fun z87=>(lim (a.length+([z87]:List Int).length)).bind fun u95=>(chk (b+1)).bind fun z103=>some (.inl (z103,(a++([z87]:List Int))))) ((lim (a.length+([x73]:List Int).length)).bind fun u111=>(chk (b+1)).bind fun z119=>some (.inl (z119,(a++([x73]:List Int)))))) (some (.inr (b,a)))

def qdl (n:Nat) (e:List Int) (g:List Int) (d:Int):Int×(List Int)×(List Int)→Option ((Int×(List Int)×(List Int))⊕((Int×(List Int)×(List Int))))
  | (a,b,c)=>cond (decide (a<(e.length:Int))) ((get e a).bind fun x28=>cond (decide (a=d)) ((chk (a+1)).bind fun z37=>some (.inl (z37,b,c))) ((lim (b.length+([x28]:List Int).length)).bind fun u46=>((loopN n (F.qfh n g d a) (0,c)).bind fun o56=>match o56 with
    | (h,f)=>(chk (a+1)).bind fun z123=>some (.inl (z123,(b++([x28]:List Int)),f))))) (some (.inr (a,b,c)))

def qhn (n:Nat) (d:List Int) (f:List Int) (a:Int) (e:Int):Option ((List Int)×(List Int)×Int):=
  ((loopN n (F.qdl n d f a) (0,([]:List Int),([]:List Int))).bind fun o16=>match o16 with
    | (g,b,c)=>some (b,c,e))

def qes (n:Nat) (e:List Int) (c:Int) (d:List (Int×Int)):Int×(List (Int×Bool))→Option ((Int×(List (Int×Bool)))⊕((Int×(List (Int×Bool)))))
  | (a,b)=>(nz 4).bind fun u234=>(chk (Int.tdiv a 4)).bind fun z236=>cond (decide (z236=c)) ((some ((gget d a).getD (0:Int))).bind fun x243=>(get e x243).bind fun x249=>some (.inl (x249,(gput (gput b a true) x243 true)))) (some (.inr (a,b)))

def qeq (n:Nat) (d:List Int) (c:List (Int×Int)):Int×(List (Int×Bool))→Option ((Int×(List (Int×Bool)))⊕((Int×(List (Int×Bool)))))
  | (a,b)=>(some ((gget b a).getD false)).bind fun x318=>cond (!x318) ((some ((gget c a).getD (0:Int))).bind fun x325=>(some ((gget c a).getD (0:Int))).bind fun x331=>(get d x331).bind fun x334=>some (.inl (x334,(gput (gput b a true) x325 true)))) (some (.inr (a,b)))

def qdv (n:Nat) (g:List Int) (z35:Int) (e:Int) (f:List (Int×Int)):Int×Int×(List (Int×Bool))→Option ((Int×Int×(List (Int×Bool)))⊕((Int×Int×(List (Int×Bool)))))
  | (c,a,b)=>cond (decide (a<((([z35,e]:List Int)).length:Int))) ((get ([z35,e]:List Int) a).bind fun x289=>(some ((gget b x289).getD false)).bind fun x298=>cond x298 ((chk (a+1)).bind fun z301=>some (.inl (c,z301,b))) ((chk (c+1)).bind fun z304=>((loopN n (F.qeq n g f) (x289,b)).bind fun o308=>match o308 with
    | (h,d)=>(chk (a+1)).bind fun z342=>some (.inl (z304,z342,d))))) (some (.inr (c,a,b)))

def qem (n:Nat) (e:List Int) (c:Int) (g:List (Int×Int)):Int×(List Int)×(List (Int×Bool))→Option ((Int×(List Int)×(List (Int×Bool)))⊕((Int×(List Int)×(List (Int×Bool)))))
  | (a,b,d)=>cond (decide (a<(e.length:Int))) ((get e a).bind fun x208=>(nz 4).bind fun u216=>(chk (Int.tdiv a 4)).bind fun z218=>cond (decide (z218=c)) ((chk (a+1)).bind fun z221=>some (.inl (z221,b,d))) (((loopN n (F.qes n e c g) (x208,d)).bind fun o225=>match o225 with
    | (h,f)=>(get b a).bind fun x257=>(chk (a+1)).bind fun z264=>some (.inl (z264,(b.set a.toNat h),f))))) (some (.inr (a,b,d)))

def qgt (n:Nat) (g:List Int) (b:List Int) (h:Int) (a:Int) (z35:Int) (i:Int) (c:List (Int×Int)):Option ((List Int)×(List Int)×Int×Int):=
  (F.qcm n b).bind fun y180=>((loopN n (F.qem n b a c) (0,y180,([]:List (Int×Bool)))).bind fun o196=>match o196 with
    | (l,e,f)=>((loopN n (F.qdv n b z35 i c) (h,0,f)).bind fun o277=>match o277 with
    | (d,k,j)=>cond (decide (64<d)) (some ([],[],0,5)) ((F.qhn n g e a d).bind fun y354=>some (y354.1,y354.2.1,y354.2.2,0))))

def qgu (n:Nat) (d:List Int) (e:List Int) (f:Int) (a:Int) (z35:Int) (b:Int) (c:Int):Option ((List Int)×(List Int)×Int×Int):=
  (chk (z35+2)).bind fun z61=>(chk (z35+2)).bind fun z63=>(dist ([z35,c,b,z63]:List Int)).bind fun u69=>F.qgt n d e f a z35 b ([(z35,c),(c,z35),(b,z61),(z63,b)]:List (Int×Int))

def qgx (n:Nat) (b:List Int) (c:List Int) (d:Int) (a:Int):Option ((List Int)×(List Int)×Int×Int):=
  (F.qdx n b c d).bind fun y12=>cond (!y12) (some ([],[],0,1)) (cond (decide (a<0)) (some ([],[],0,2)) (cond (decide ((b.length:Int)≤a)) (some ([],[],0,2)) ((chk (4*a)).bind fun z35=>(chk (z35+3)).bind fun z39=>(chk (z35+1)).bind fun z41=>(get b a).bind fun x45=>cond (decide (x45=(-1))) (F.qgu n b c d a z35 z41 z39) (F.qgu n b c d a z35 z39 z41))))


def qfo (n:Nat) (b:Int) (a:Int):Option (Bool):=
  some (decide (b=a))


def qhc (n:Nat) (b:Int) (a:Int):Option (Int):=
  (F.qfo n b a).bind fun y6=>cond y6 (some (-1)) (some 1)


def qha (n:Nat) (c:Int) (f:Int) (a:Int) (b:List Int) (d:List Int) (e:Int):Option (Int):=
  (F.qfo n c a).bind fun y9=>cond (!y9) (some 0) ((get b c).bind fun x15=>cond (decide (x15=1)) (some (-3)) (some (-1)))


def qgq (n:Nat) (e:Int) (a:Int) (b:List Int) (c:List Int) (d:Int):Option (Int):=
  (nz 4).bind fun u9=>(chk (Int.tdiv e 4)).bind fun z11=>(nz 4).bind fun u13=>(F.qha n z11 (Int.tmod e 4) a b c d).bind fun y15=>(F.qdt n e y15).bind fun y19=>some y19

def qbf (n:Nat) (g:List Int) (b:Int) (d:List Int) (e:List Int) (f:Int):Int×(List Int)→Option ((Int×(List Int))⊕((Int×(List Int))))
  | (c,a)=>cond (decide (c<(g.length:Int))) ((get g c).bind fun x180=>(F.qgq n c b d e f).bind fun y188=>(F.qgq n x180 b d e f).bind fun y193=>(get a y188).bind fun x198=>(chk (c+1)).bind fun z206=>some (.inl (z206,(a.set y188.toNat y193)))) (some (.inr (c,a)))

def qbg (n:Nat) (d:List Int) (c:Int):Int×(List Int)→Option ((Int×(List Int))⊕((Int×(List Int))))
  | (a,b)=>cond (decide (a<(d.length:Int))) ((get d a).bind fun x139=>(F.qhc n a c).bind fun y147=>(chk (x139*y147)).bind fun z152=>(get b a).bind fun x154=>(chk (a+1)).bind fun z162=>some (.inl (z162,(b.set a.toNat z152)))) (some (.inr (a,b)))

def qbu (n:Nat) (i:List Int) (j:List Int) (k:Int) (a:Int) (d:List Int) (e:List Int) (f:Int) (g:List Int) (h:List Int):Option ((List Int)×(List Int)×Int):=
  ((loopN n (F.qbg n i a) (0,g)).bind fun o127=>match o127 with
    | (l,b)=>((loopN n (F.qbf n j a d e f) (0,h)).bind fun o168=>match o168 with
    | (m,c)=>some (b,c,k)))

def qcb (n:Nat) (b:List Int) (c:List Int) (g:Int) (a:Int) (d:List Int) (e:List Int) (f:Int):Option ((List Int)×(List Int)×Int):=
  (pos (b.length:Int)).bind fun u22=>(pos (c.length:Int)).bind fun u30=>F.qbu n b c g a d e f (List.replicate (b.length:Int).toNat (0:Int)) (List.replicate (c.length:Int).toNat (0:Int))


def qdf (n:Nat) (b:List Int) (c:List Int) (d:Int) (a:Int):Option ((List Int)×(List Int)×Int):=
  (F.qcb n b c d a b c d).bind fun y16=>some (y16.1,y16.2.1,y16.2.2)


def qgz (n:Nat) (b:List Int) (c:List Int) (d:Int) (a:Int):Option ((List Int)×(List Int)×Int×Int):=
  (F.qdx n b c d).bind fun y15=>cond (!y15) (some ([],[],0,1)) (cond (decide (a<0)) (some ([],[],0,2)) (cond (decide ((b.length:Int)≤a)) (some ([],[],0,2)) ((F.qdf n b c d a).bind fun y38=>some (y38.1,y38.2.1,y38.2.2,0))))


def qew (n:Nat) (a:List Int) (b:List Int) (c:Int):Option ((List Int)×(List Int)×Int×(List Int)×(List Int)×Int×Int×Int):=
  (F.qcx n a b c).bind fun y14=>cond y14.2 (some ([],[],0,[],[],0,(-1),12)) (cond (decide (y14.1<0)) (some ([],[],0,[],[],0,(-1),1)) ((F.qgx n a b c y14.1).bind fun y69=>cond (!(decide (y69.2.2.2=0))) (some ([],[],0,[],[],0,(-1),y69.2.2.2)) ((F.qgz n a b c y14.1).bind fun y99=>cond (!(decide (y99.2.2.2=0))) (some ([],[],0,[],[],0,(-1),y99.2.2.2)) (some (y99.1,y99.2.1,y99.2.2.1,y69.1,y69.2.1,y69.2.2.1,y14.1,0)))))


def qbv (n:Nat) (b:Int) (a:Int):Option (Bool):=
  (chk (-a)).bind fun z3=>cond (decide (z3≤b)) (some (decide (b≤a))) (some false)

def qde (n:Nat) (c:List (Int×(Int×Int))) (d:Int) (e:Int):Int×(List (Int×(Int×Int)))→Option ((Int×(List (Int×(Int×Int))))⊕((Int×(List (Int×(Int×Int))))⊕(Bool×(List (Int×(Int×Int))))))
  | (b,a)=>cond (decide (b<(c.length:Int))) ((get c b).bind fun x62=>(chk (x62.1+d)).bind fun z82=>(F.qbv n z82 1048576).bind fun y84=>cond (!y84) (some (.inr (.inr (true,[])))) ((chk (x62.2.1+e)).bind fun z92=>(F.qbv n z92 1048576).bind fun y94=>cond (!y94) (some (.inr (.inr (true,[])))) ((chk (x62.1+d)).bind fun z102=>(chk (x62.2.1+e)).bind fun z104=>(lim (a.length+([(z102,(z104,x62.2.2))]:List (Int×(Int×Int))).length)).bind fun u112=>(chk (b+1)).bind fun z120=>some (.inl (z120,(a++([(z102,(z104,x62.2.2))]:List (Int×(Int×Int))))))))) (some (.inr (.inl (b,a))))

def qdg (n:Nat) (b:Bool) (a:List (Int×(Int×Int))) (d:Int) (e:Int):Option (Bool×(List (Int×(Int×Int)))):=
  cond b (some (b,a)) (cond (decide ((a.length:Int)=0)) (some (b,a)) ((F.qbv n d 2097152).bind fun y20=>cond (!y20) (some (true,[])) ((F.qbv n e 2097152).bind fun y27=>cond (!y27) (some (true,[])) ((pos (a.length:Int)).bind fun u35=>((loopN n (F.qde n a d e) (0,([]:List (Int×(Int×Int))))).bind fun o50=>match o50 with
    | (.inl (f,c))=>some (false,c)
    | (.inr q)=>some q)))))


def qey (n:Nat) (b:Int) (c:Int) (a:Int):Option (Int×Int):=
  (chk (b+(a/ 33554432))).bind fun z9=>(chk (c+(a%33554432))).bind fun z11=>some (z9,z11)

def qcv (n:Nat) (b:List (Int×(Int×Int))) (d:Int):Int×(List ((Int×Int)×(Int×Int)))→Option ((Int×(List ((Int×Int)×(Int×Int))))⊕((Int×(List ((Int×Int)×(Int×Int))))))
  | (a,c)=>cond (decide (a<(b.length:Int))) ((get b a).bind fun x17=>(some ((gget c (x17.1,x17.2.1)).getD ((0:Int),(0:Int)))).bind fun x44=>(chk (d*x17.2.2)).bind fun z50=>(F.qey n x44.1 x44.2 z50).bind fun y52=>(chk (a+1)).bind fun z58=>some (.inl (z58,(gput c (x17.1,x17.2.1) (y52.1,y52.2))))) (some (.inr (a,c)))

def qdj (n:Nat) (a:List (Int×(Int×Int))) (d:Int) (b:List ((Int×Int)×(Int×Int))):Option ((List ((Int×Int)×(Int×Int)))):=
  ((loopN n (F.qcv n a d) (0,b)).bind fun o5=>match o5 with
    | (e,c)=>some c)


def qfk (n:Nat) (b:Int) (a:Int):Option (Int×Bool):=
  (chk (b+(a/ 33554432))).bind fun z8=>(F.qbv n z8 67108864).bind fun y13=>cond (!y13) (some (0,false)) ((chk (z8*33554432)).bind fun z19=>(chk (z19+(a%33554432))).bind fun z21=>(F.qbv n z21 1125899906842624).bind fun y24=>some (z21,y24))


def cmp_isNaN_int (n:Nat) (a:Int):Option (Bool):=
  some (!(decide (a=a)))


def cmp_Compare_int (n:Nat) (a:Int) (b:Int):Option (Int):=
  (F.cmp_isNaN_int n a).bind fun y3=>(F.cmp_isNaN_int n b).bind fun y7=>cond y3 (cond y7 (some 0) (some (-1))) (cond y7 (some 1) (cond (decide (a<b)) (some (-1)) (cond (decide (b<a)) (some 1) (some 0))))

def qfi (n:Nat) (b:List Int):Int→Option ((Int)⊕((Int)⊕(Int)))
  | a=>cond (decide (a<(b.length:Int))) ((get b a).bind fun x18=>cond (!(decide (x18=0))) (some (.inr (.inr x18))) ((chk (a+1)).bind fun z27=>some (.inl z27))) (some (.inr (.inl a)))

def cmp_Or_int (n:Nat) (a:List Int):Option (Int):=
  ((loopN n (F.qfi n a) 0).bind fun o6=>match o6 with
    | (.inl b)=>some 0
    | (.inr q)=>some q)


def qcn (n:Nat) (a:Int) (b:Int) (e:Int) (c:Int) (d:Int) (f:Int):Option (Int):=
  (F.cmp_Compare_int n a c).bind fun y11=>(F.cmp_Compare_int n b d).bind fun y15=>(F.cmp_Or_int n ([y11,y15]:List Int)).bind fun y25=>some y25

def qbj (n:Nat) (a:List (Int×(Int×Int))):Option (List (Int×(Int×Int))):=if (a.all fun x=>a.all fun y=>(qcn n x.1 x.2.1 x.2.2 y.1 y.2.1 y.2.2).isSome)=true∧swoL (fun x y:(Int×(Int×Int))=>(qcn n x.1 x.2.1 x.2.2 y.1 y.2.1 y.2.2).getD 0) a=true∧a.length≤1099511627776 then some (sortL (fun x y:(Int×(Int×Int))=>(qcn n x.1 x.2.1 x.2.2 y.1 y.2.1 y.2.2).getD 0) a) else none

def qfj (n:Nat) (a:List (Int×(Int×Int))) (b:(Int×Int)×(Int×Int)) (y54:Int×Bool) (c:Bool):Option (((List (Int×(Int×Int))))⊕((Bool×(List (Int×(Int×Int)))))):=
  cond (!y54.2) (some (.inr (true,[]))) ((F.qbv n b.1.1 1048576).bind fun y71=>cond (!y71) (some (.inr (true,[]))) ((F.qbv n b.1.2 1048576).bind fun y79=>cond (!y79) (some (.inr (true,[]))) ((lim (a.length+([(b.1.1,(b.1.2,y54.1))]:List (Int×(Int×Int))).length)).bind fun u93=>some (.inl (a++([(b.1.1,(b.1.2,y54.1))]:List (Int×(Int×Int))))))))

def qdm (n:Nat):((Int×Int)×(Int×Int))→(List (Int×(Int×Int)))→Option (((List (Int×(Int×Int))))⊕((Bool×(List (Int×(Int×Int))))))
  | b,a=>(F.qfk n b.2.1 b.2.2).bind fun y54=>cond y54.2 (cond (decide (y54.1=0)) (some (.inl a)) (F.qfj n a b y54 (decide (y54.1=0)))) (F.qfj n a b y54 false)

def qft (n:Nat) (a:List ((Int×Int)×(Int×Int))):Option (Bool×(List (Int×(Int×Int)))):=
  (chk (a.length:Int)).bind fun z7=>(pos z7).bind fun u9=>(foldM (F.qdm n) ([]:List (Int×(Int×Int))) a fun oM=>match oM with
    | .inl b=>(F.qbj n b).bind fun y104=>some (false,y104)
    | .inr q=>some q)


def qeh (n:Nat) (d:Bool) (a:List (Int×(Int×Int))) (e:Bool) (b:List (Int×(Int×Int))) (c:Int):Option (Bool×(List (Int×(Int×Int)))):=
  cond d (some (true,[])) (cond e (some (true,[])) ((chk ((a.length:Int)+(b.length:Int))).bind fun z24=>(F.qdj n a 1 ([]:List ((Int×Int)×(Int×Int)))).bind fun y36=>(F.qdj n b c y36).bind fun y40=>(F.qft n y40).bind fun y44=>some (y44.1,y44.2)))


def qfc (n:Nat) (a:Bool) (b:List (Int×(Int×Int))) (c:Bool) (d:List (Int×(Int×Int))):Option (Bool×(List (Int×(Int×Int)))):=
  (F.qeh n a b c d 1).bind fun y14=>some (y14.1,y14.2)


def qdu (n:Nat) (a:Bool) (b:List (Int×(Int×Int))) (c:Bool) (d:List (Int×(Int×Int))):Option (Bool×(List (Int×(Int×Int)))):=
  (F.qeh n a b c d (-1)).bind fun y14=>some (y14.1,y14.2)


def qdd (n:Nat) (a:Bool) (b:List (Int×(Int×Int))):Option (Bool):=
  some a


def qfq (n:Nat) (a:Int) (b:Int) (c:Int):Option (Bool×(List (Int×(Int×Int)))):=
  cond (decide (a=0)) (some (false,[])) ((F.qbv n a 1125899906842624).bind fun y12=>cond (!y12) (some (true,[])) ((F.qbv n b 1048576).bind fun y20=>cond (!y20) (some (true,[])) ((F.qbv n c 1048576).bind fun y28=>cond (!y28) (some (true,[])) (some (false,([(b,(c,a))]:List (Int×(Int×Int))))))))

def qcz (n:Nat) (b:List (Int×(Int×Int))):Int×Int→Option ((Int×Int)⊕((Int×Int)))
  | (c,a)=>cond (decide (a<(b.length:Int))) ((get b a).bind fun x21=>(chk (-x21.2.2)).bind fun z39=>(chk (a+1)).bind fun z41=>some (.inl ((max (max c x21.2.2) z39),z41))) (some (.inr (c,a)))

def qdo (n:Nat) (c:Bool) (a:List (Int×(Int×Int))):Option (Int):=
  ((loopN n (F.qcz n a) (0,0)).bind fun o9=>match o9 with
    | (b,d)=>some b)

def qdc (n:Nat) (c:List (Int×(Int×Int))) (x74:Int×(Int×Int)):Int×(List ((Int×Int)×(Int×Int)))→Option ((Int×(List ((Int×Int)×(Int×Int))))⊕((Int×(List ((Int×Int)×(Int×Int))))))
  | (a,b)=>cond (decide (a<(c.length:Int))) ((get c a).bind fun x105=>(chk (x74.1+x105.1)).bind fun z124=>(chk (x74.2.1+x105.2.1)).bind fun z126=>(some ((gget b (z124,z126)).getD ((0:Int),(0:Int)))).bind fun x136=>(chk (x74.2.2*x105.2.2)).bind fun z142=>(F.qey n x136.1 x136.2 z142).bind fun y144=>(chk (a+1)).bind fun z150=>some (.inl (z150,(gput b (z124,z126) (y144.1,y144.2))))) (some (.inr (a,b)))

def qdp (n:Nat) (c:List (Int×(Int×Int))) (e:List (Int×(Int×Int))):Int×(List ((Int×Int)×(Int×Int)))→Option ((Int×(List ((Int×Int)×(Int×Int))))⊕((Int×(List ((Int×Int)×(Int×Int))))))
  | (a,b)=>cond (decide (a<(c.length:Int))) ((get c a).bind fun x74=>((loopN n (F.qdc n e x74) (0,b)).bind fun o93=>match o93 with
    | (f,d)=>(chk (a+1)).bind fun z154=>some (.inl (z154,d)))) (some (.inr (a,b)))

def qgb (n:Nat) (c:Bool) (a:List (Int×(Int×Int))) (d:Bool) (b:List (Int×(Int×Int))):Option (Bool×(List (Int×(Int×Int)))):=
  cond c (some (true,[])) (cond d (some (true,[])) (cond (decide ((a.length:Int)=0)) (some (false,[])) (cond (decide ((b.length:Int)=0)) (some (false,[])) ((F.qdo n c a).bind fun y39=>(F.qdo n d b).bind fun y43=>(nz y43).bind fun u47=>(chk (Int.tdiv 1125899906842624 y43)).bind fun z49=>cond (decide (z49<y39)) (some (true,[])) (((loopN n (F.qdp n a b) (0,([]:List ((Int×Int)×(Int×Int))))).bind fun o62=>match o62 with
    | (f,e)=>(F.qft n e).bind fun y159=>some (y159.1,y159.2)))))))

def qfg (n:Nat) (y24:Bool×(List (Int×(Int×Int)))) (z53:Int):Int×Bool×(List (Int×(Int×Int)))→Option ((Int×Bool×(List (Int×(Int×Int))))⊕((Int×Bool×(List (Int×(Int×Int))))))
  | (c,a,b)=>cond (decide (c<z53)) ((F.qgb n a b y24.1 y24.2).bind fun y67=>(chk (c+1)).bind fun z77=>some (.inl (z77,y67.1,y67.2))) (some (.inr (c,a,b)))

def qhm (n:Nat) (c:Int):Option (Bool×(List (Int×(Int×Int)))):=
  (F.qfq n 1 (-1) (-1)).bind fun y6=>(F.qfq n 1 1 (-1)).bind fun y15=>(F.qdu n y6.1 y6.2 y15.1 y15.2).bind fun y24=>(F.qfq n 1 0 0).bind fun y38=>(chk (c-1)).bind fun z53=>((loopN n (F.qfg n y24 z53) (0,y38.1,y38.2)).bind fun o56=>match o56 with
    | (d,a,b)=>some (a,b))


def qdi:Nat→(List Int)→(List Int)→Int→Bool→(List (Int×(Bool×(List (Int×(Int×Int))))))→Option (Bool×(List (Int×(Int×Int)))×(List (Int×(Bool×(List (Int×(Int×Int))))))×Bool)
  | 0,_,_,_,_,_=>none
  | n+1,b,d,e,c,a=>cond (!c) (some (false,[],a,c)) ((F.qew n b d e).bind fun y21=>cond (decide (y21.2.2.2.2.2.2.2=0)) ((get b y21.2.2.2.2.2.2.1).bind fun x66=>((qdi n) y21.2.2.2.1 y21.2.2.2.2.1 y21.2.2.2.2.2.1 c a).bind fun y73=>(F.qdg n y73.1 y73.2.1 x66 1).bind fun y82=>((qdi n) y21.1 y21.2.1 y21.2.2.1 y73.2.2.2 y73.2.2.1).bind fun y97=>(chk (2*x66)).bind fun z106=>(F.qdg n y97.1 y97.2.1 z106 0).bind fun y108=>cond (decide (0<x66)) ((F.qfc n y108.1 y108.2 y82.1 y82.2).bind fun y124=>cond y97.2.2.2 ((F.qdd n y124.1 y124.2).bind fun y137=>some (y124.1,y124.2,y97.2.2.1,(!y137))) (some (y124.1,y124.2,y97.2.2.1,false))) ((F.qdu n y108.1 y108.2 y82.1 y82.2).bind fun y146=>cond y97.2.2.2 ((F.qdd n y146.1 y146.2).bind fun y159=>some (y146.1,y146.2,y97.2.2.1,(!y159))) (some (y146.1,y146.2,y97.2.2.1,false)))) (cond (decide (y21.2.2.2.2.2.2.2=12)) ((F.qds n b d e).bind fun y171=>(some ((gget a y171).getD (false,([]:List (Int×(Int×Int)))))).bind fun x177=>cond (!(gget a y171).isSome) ((F.qhm n y171).bind fun y197=>(F.qdd n y197.1 y197.2).bind fun y209=>some (y197.1,y197.2,(gput a y171 (y197.1,y197.2)),(!y209))) ((F.qdd n x177.1 x177.2).bind fun y216=>some (x177.1,x177.2,a,(!y216)))) (some (false,[],a,false))))

def qgp (n:Nat) (a:List Int) (b:List Int) (c:Int):Option (Bool×(List (Int×(Int×Int)))×Int):=
  cond (decide (14<(a.length:Int))) (some (false,[],5)) ((F.qdi n a b c true ([]:List (Int×(Bool×(List (Int×(Int×Int))))))).bind fun y56=>cond (!y56.2.2.2) (some (false,[],9)) (some (y56.1,y56.2.1,0)))

def qhs (n:Nat) (a:List Int) (c:List Int) (b:Int):Option (Bool×(List (Int×(Int×Int)))×Int):=
  (F.qdx n a c b).bind fun y12=>cond (!y12) (some (false,[],1)) (cond (decide ((a.length:Int)=0)) (cond (decide (b=0)) (some (false,[],8)) (F.qgp n a c b)) (F.qgp n a c b))

def qcw (n:Nat) (b:List (Int×(Int×Int))) (c:List (Int×(Int×Int))):Int→Option ((Int)⊕((Int)⊕(Bool)))
  | a=>cond (decide (a<(b.length:Int))) ((get b a).bind fun x25=>(get c a).bind fun x40=>cond (!(decide (x25.1=x40.1)&&(decide (x25.2.1=x40.2.1)&&(decide (x25.2.2=x40.2.2)&&true)))) (some (.inr (.inr false))) ((chk (a+1)).bind fun z57=>some (.inl z57))) (some (.inr (.inl a)))

def qfz (n:Nat) (a:List (Int×(Int×Int))) (b:List (Int×(Int×Int))):Option (Bool):=
  cond (!(decide ((a.length:Int)=(b.length:Int)))) (some false) (((loopN n (F.qcw n a b) 0).bind fun o10=>match o10 with
    | (.inl c)=>some true
    | (.inr q)=>some q))


def qfe (n:Nat) (a:Bool) (b:List (Int×(Int×Int))) (c:Bool) (d:List (Int×(Int×Int))):Option (Bool):=
  cond (a == c) ((F.qfz n b d).bind fun y12=>some y12) (some false)


def law36_MarkovLinks (n:Nat) (a:Int) (b:List Int) (c:Int) (d:Int) (e:Int):Option (Bool):=
  (F.law36_awake n).bind fun y8=>cond (!y8) (some false) (cond (decide (5<(b.length:Int))) (some true) (cond (decide (4<a)) (some true) ((F.qbx n a b c d e).bind fun y26=>cond (!(decide (y26.2.2.2.2.2=0))) (some true) ((F.qgi n a b).bind fun y54=>(F.qgi n y26.1 y26.2.1).bind fun y76=>cond (!(decide (y54.2.2.2=0))) (some false) (cond (!(decide (y76.2.2.2=0))) (some false) ((F.qds n y54.1 y54.2.1 y54.2.2.1).bind fun y106=>(F.qds n y76.1 y76.2.1 y76.2.2.1).bind fun y110=>cond (!(decide (y106=y110))) (some false) ((F.qhs n y54.1 y54.2.1 y54.2.2.1).bind fun y118=>(F.qhs n y76.1 y76.2.1 y76.2.2.1).bind fun y133=>cond (decide (y118.2.2=0)) (cond (decide (y133.2.2=0)) ((F.qfe n y118.1 y118.2.1 y133.1 y133.2.1).bind fun y151=>some y151) (some false)) (some false))))))))
