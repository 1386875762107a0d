import Derived.Test.YticemffhlapnnaaPRsegs
set_option linter.all false
namespace Go.Proofs.Yticemffhlapnnaa
open Ev
namespace Gl
open Gar Pg
section
variable {n : Nat} {x o cx co : Nat → Nat} (g : Gd n x o cx co)
include g
omit g in
theorem Gd.sgl_len (g:Gd n x o cx co):(sgl n x o cx co).length=(crl n x o cx co).length:=by simp [sgl]
end
open Gar Pg
inductive Wk (nx:Nat→Nat):List Bool→Nat→List Nat→List Bool→Nat→Prop
 | done {s:List Bool} {c:Nat} (h:s[c]? =some true):Wk nx s c [] s c
 | step {s s':List Bool} {c c':Nat} {v:List Nat} (h:s[c]? =some false) (t:Wk nx (s.set c true) (nx c) v s' c'):Wk nx s c (c::v) s' c'
theorem count_set {s:List Bool} {c:Nat} (h:s[c]? =some false):(s.set c true).countP (fun b=>!b)+1=s.countP (fun b=>!b):=by
 induction s generalizing c with
 | nil=>simp at h
 | cons b s ih=>
  cases c with
  | zero=>
   simp at h; subst h
   simp
  | succ c=>
   simp only [List.getElem?_cons_succ] at h
   have:=ih h
   simp only [List.set_cons_succ,List.countP_cons]
   omega
theorem Wk.exists {nx:Nat→Nat} {n:Nat} (hn: ∀c,c<n→nx c<n): ∀(k:Nat) (s:List Bool) (c:Nat),s.length=n→c<n→s.countP (fun b=>!b)≤k→∃v s' c',Wk nx s c v s' c'
 | k,s,c,hs,hc,hk=>by
  obtain ⟨b,hb⟩: ∃b,s[c]? =some b:=⟨_,gE (by omega)⟩
  cases b with
  | true=>exact ⟨_,_,_,.done hb⟩
  | false=>
   have h1:=count_set hb
   cases k with
   | zero=>omega
   | succ k=>
    obtain ⟨v,s',c',h⟩:=Wk.exists hn k (s.set c true) (nx c) (by rw [List.length_set,hs]) (hn c hc) (by omega)
    exact ⟨_,_,_,.step hb h⟩
theorem Wk.len {nx:Nat→Nat} {s s':List Bool} {c c':Nat} {v:List Nat} (h:Wk nx s c v s' c'):v.length≤s.length∧s'.length=s.length:=by
 have:v.length≤s.countP (fun b=>!b)∧s'.length=s.length:=by
  induction h with
  | done h=>exact ⟨Nat.zero_le _,rfl⟩
  | step h t ih=>
   have:=count_set h
   rw [List.length_set] at ih
   exact ⟨by rw [List.length_cons]; omega,ih.2⟩
 have:=List.countP_le_length (p:=fun b=>!b) (l:=s)
 omega
def part (n:Nat) (x o cx co:Nat→Nat) (c:Nat):List Vis:=colV n x o cx co c++rowV n x o cx co (o c)
theorem concat2 {a b:List (Int×Int)} (ha:a.length≤100000) (hb:b.length≤100000) (m:Nat) (hm:10<m):F.qcn m [a,b]=some (a++b):=by
 obtain ⟨k,rfl⟩: ∃k,m=k+3:=⟨m-3,by omega⟩
 unfold F.qcn
 have g0:Ev.get [a,b] (0:Int)=some a:=rfl
 have g1:Ev.get [a,b] (1:Int)=some b:=rfl
 have s0:F.qaz (k+3) [a,b] (0,0)=some (.inl ((a.length:Int),1)):=by
  unfold F.qaz
  dsimp only
  rw [dT (by simp),kT,g0,bB,qak (by omega) (by omega),bB,dF (by omega),kF,qak (by omega) (by omega),bB,Int.zero_add]
  rfl
 have s1:F.qaz (k+3) [a,b] ((a.length:Int),1)=some (.inl ((a.length:Int)+(b.length:Int),2)):=by
  unfold F.qaz
  dsimp only
  rw [dT (by simp),kT,g1,bB,qak (by omega) (by omega),bB,dF (by omega),kF,qak (by omega) (by omega),bB]
  rfl
 have s2:F.qaz (k+3) [a,b] ((a.length:Int)+(b.length:Int),2)=some (.inr ((a.length:Int)+(b.length:Int),2)):=by
  unfold F.qaz
  dsimp only
  rw [dF (by simp),kF]
 have hg:F.qby (k+3) ((a.length:Int)+(b.length:Int))=some []:=by
  unfold F.qby
  rw [dF (by omega),kF,qak (by omega) (by omega),bB,qak (by omega) (by omega),bB]
  by_cases h:0<(a.length:Int)+(b.length:Int)-(0-0)
  ·
   rw [dT h,kT,posz_ok (by omega) (by omega),bB,cut_ok (by omega) (by omega) (by omega),bB]
   rfl
  · rw [dF h,kF]
 have t0:F.qav (k+3) [a,b] ([],0)=some (.inl (a,1)):=by
  unfold F.qav
  dsimp only
  rw [dT (by simp),kT,g0,bB,qct (by simp only [List.length_nil]; omega),bB,qak (by omega) (by omega),bB]
  rfl
 have t1:F.qav (k+3) [a,b] (a,1)=some (.inl (a++b,2)):=by
  unfold F.qav
  dsimp only
  rw [dT (by simp),kT,g1,bB,qct (by omega),bB,qak (by omega) (by omega),bB]
  rfl
 have t2:F.qav (k+3) [a,b] (a++b,2)=some (.inr (a++b,2)):=by
  unfold F.qav
  dsimp only
  rw [dF (by simp),kF]
 have l0:loopN (k+3) (F.qaz (k+3) [a,b]) (0,0)=some ((a.length:Int)+(b.length:Int),2):=by
  simp only [loopN,s0,s1,s2,bB]
 have l1:loopN (k+3) (F.qav (k+3) [a,b]) ([],0)=some (a++b,2):=by
  simp only [loopN,t0,t1,t2,bB]
 rw [l0,bB]
 dsimp only
 rw [hg,bB,l1,bB]
section
variable {n : Nat} {x o cx co : Nat → Nat} (g : Gd n x o cx co)
include g
theorem Gd.nxl {c:Nat} (h:c<n):cx (o c)<n:=g.cxl (g.ol h)
omit g in
theorem len_seg (a b:Nat):(seg a b).length=max a b-min a b:=by simp [seg,segk]
theorem Gd.col_len {c:Nat} (h:c<n):(colV n x o cx co c).length≤40:=by
 have h1:=g.xl h
 have h2:=g.ol h
 have h3:=g.hi
 have:=List.length_filter_le (cr x o cx co c) (seg (x c) (o c))
 rw [len_seg] at this
 unfold colV
 rw [List.length_map]; omega
theorem Gd.row_len2 {j:Nat} (h:j<n):(rowV n x o cx co j).length≤40:=by
 have h1:=g.cxl h
 have h2:=g.col h
 have h3:=g.hi
 have:=List.length_filter_le (fun i=>cr x o cx co i j) (seg (co j) (cx j))
 rw [len_seg] at this
 unfold rowV
 rw [List.length_map]; omega
theorem Gd.part_len {c:Nat} (h:c<n):(part n x o cx co c).length≤80:=by
 have:=g.col_len h
 have:=g.row_len2 (g.ol h)
 unfold part
 rw [List.length_append]; omega
theorem Gd.seg_vis {i j:Nat} (hi:i<n) (hj:j<n) (h:cr x o cx co i j=true):num (crl n x o cx co) (i,j)<(sgl n x o cx co).length:=by
 rw [g.sgl_len]; exact num_lt (qej.2 ⟨hi,hj,h⟩)
theorem Gd.part_vis {c:Nat} (h:c<n): ∀v∈part n x o cx co c,0≤v.1∧v.1<((sgl n x o cx co).length:Int):=by
 intro v hv
 unfold part at hv
 rcases List.mem_append.1 hv with hv | hv
 ·
  unfold colV at hv
  obtain ⟨r,hr,rfl⟩:=List.mem_map.1 hv
  have hc:=(List.mem_filter.1 hr).2
  have hb:=g.cr_col hc
  have h1:=g.xl h
  have h2:=g.ol h
  have:=g.seg_vis h (show r<n by omega) hc
  unfold vov
  dsimp only; omega
 ·
  unfold rowV at hv
  obtain ⟨r,hr,rfl⟩:=List.mem_map.1 hv
  have hc:=(List.mem_filter.1 hr).2
  have hb:=g.cr_row hc
  have h1:=g.cxl (g.ol h)
  have h2:=g.col (g.ol h)
  have:=g.seg_vis (show r<n by omega) (g.ol h) hc
  unfold vun
  dsimp only; omega
end
open Gar Pg
def tabC (n:Nat) (x o cx co:Nat→Nat):List (List (Int×Int)):=tab n (fun i=>(colV n x o cx co i).map (ps (sgl n x o cx co)))
def tabR (n:Nat) (x o cx co:Nat→Nat):List (List (Int×Int)):=tab n (fun j=>(rowV n x o cx co j).map (ps (sgl n x o cx co)))
def pss (n:Nat) (x o cx co:Nat→Nat) (v:List Nat):List (Int×Int):=(v.flatMap (part n x o cx co)).map (ps (sgl n x o cx co))
section
variable {n : Nat} {x o cx co : Nat → Nat} (g : Gd n x o cx co)
include g
omit g in
theorem Gd.c1_end (g:Gd n x o cx co) {s:List Bool} {c:Nat} (h:s[c]? =some true) (m:Nat):F.qbh m (li n o) (tabC n x o cx co) (tabR n x o cx co) (li n cx) ([],s,(c:Int))=some (.inr (.inr (0,0,false,s,[],(c:Int)))):=by
 unfold F.qbh
 dsimp only
 rw [dT (by simp),kT,get_at rfl h,bB,kT]
omit g in
theorem Gd.c1_full (g:Gd n x o cx co) {s:List Bool} {c:Nat} {a:List (Int×Int)} (ha:a≠[]) (m:Nat):F.qbh m (li n o) (tabC n x o cx co) (tabR n x o cx co) (li n cx) (a,s,(c:Int))=some (.inr (.inl (a,s,(c:Int)))):=by
 have:0<a.length:=List.length_pos_iff.2 ha
 unfold F.qbh
 dsimp only
 rw [dF (by omega),kF]
theorem Gd.c1_step {s:List Bool} {c:Nat} (hc:c<n) (h:s[c]? =some false) (m:Nat) (hm:100<m):F.qbh m (li n o) (tabC n x o cx co) (tabR n x o cx co) (li n cx) ([],s,(c:Int))=some (.inl ((part n x o cx co c).map (ps (sgl n x o cx co)),s.set c true,((cx (o c):Nat):Int))):=by
 have h1:=g.ol hc
 have h2:=g.col_len hc
 have h3:=g.row_len2 h1
 unfold F.qbh tabC tabR
 dsimp only
 rw [dT (by simp),kT,get_at rfl h,bB,kF,bB,qeg (by omega) (by omega),bB,Int.toNat_natCast,get_tab rfl hc,bB,get_tab rfl h1,bB,
  concat2 (by rw [List.length_map]; omega) (by rw [List.length_map]; omega) m (by omega),bB,qeg (by omega) (by omega),bB,Int.toNat_natCast]
 unfold part
 rw [List.map_append]
theorem Gd.next_loop {s s':List Bool} {c c':Nat} {v:List Nat} (h:Wk (fun c=>cx (o c)) s c v s' c') (m:Nat) (hm:100<m):c<n→∀k,v.length<k→
  (pss n x o cx co v=[]∧loopN k (F.qbh m (li n o) (tabC n x o cx co) (tabR n x o cx co) (li n cx)) ([],s,(c:Int))=some (.inr (0,0,false,s',[],(c':Int))))∨
  ∃a s1 c1 v1,a≠[]∧a.length≤80∧c1<n∧loopN k (F.qbh m (li n o) (tabC n x o cx co) (tabR n x o cx co) (li n cx)) ([],s,(c:Int))=some (.inl (a,s1,((c1:Nat):Int)))∧Wk (fun c=>cx (o c)) s1 c1 v1 s' c'∧pss n x o cx co v=a++pss n x o cx co v1∧v1.length≤v.length:=by
 induction h with
 | @done s c h=>
  intro hc k hk
  obtain ⟨k,rfl⟩: ∃j,k=j+1:=⟨k-1,by omega⟩
  exact .inl ⟨rfl,by simp only [loopN,g.c1_end h m,bB]⟩
 | @step s s' c c' v h t ih=>
  intro hc k hk
  rw [List.length_cons] at hk
  obtain ⟨k,rfl⟩: ∃j,k=j+1:=⟨k-1,by omega⟩
  have hb:=g.c1_step hc h m hm
  have hl:=g.part_len hc
  have hp:pss n x o cx co (c::v)=(part n x o cx co c).map (ps (sgl n x o cx co))++pss n x o cx co v:=by
   unfold pss; rw [List.flatMap_cons,List.map_append]
  simp only [loopN,hb,bB]
  by_cases he:(part n x o cx co c).map (ps (sgl n x o cx co))=[]
  ·
   rw [hp,he,List.nil_append]
   rcases ih (g.nxl hc) k (by omega) with h1 | ⟨a,s1,c1,v1,h1,h2,h3,h4,h5,h6,h7⟩
   · exact .inl h1
   · exact .inr ⟨a,s1,c1,v1,h1,h2,h3,h4,h5,h6,by rw [List.length_cons]; omega⟩
  ·
   obtain ⟨k,rfl⟩: ∃j,k=j+1:=⟨k-1,by omega⟩
   right
   refine ⟨_,_,_,v,he,by rw [List.length_map]; exact hl,g.nxl hc,?_,t,hp,by rw [List.length_cons]; omega⟩
   simp only [loopN,g.c1_full he m,bB]
theorem Gd.next {s s':List Bool} {c c':Nat} {v:List Nat} (h:Wk (fun c=>cx (o c)) s c v s' c') (m:Nat) (hm:100<m) (hc:c<n) (hv:v.length<m) (a:List (Int×Int)) (hal:a.length≤80):
  (a++pss n x o cx co v=[]∧F.qcb m a s (c:Int) (li n x) (li n o) (tabC n x o cx co) (tabR n x o cx co) (li n cx)=some (0,0,false,s',[],(c':Int)))∨
  ∃p a1 s1 c1 v1,a1.length≤80∧c1<n∧F.qcb m a s (c:Int) (li n x) (li n o) (tabC n x o cx co) (tabR n x o cx co) (li n cx)=some (p.1,p.2,true,s1,a1,((c1:Nat):Int))∧Wk (fun c=>cx (o c)) s1 c1 v1 s' c'∧a++pss n x o cx co v=p::(a1++pss n x o cx co v1)∧v1.length≤v.length:=by
 have key: ∀(a:List (Int×Int)) s1 c1 v1,a≠[]→a.length≤80→c1<n→Wk (fun c=>cx (o c)) s1 c1 v1 s' c'→v1.length≤v.length→∀a0 s0 (z0:Int),loopN m (F.qbh m (li n o) (tabC n x o cx co) (tabR n x o cx co) (li n cx)) (a0,s0,z0)=some (.inl (a,s1,((c1:Nat):Int)))→
   ∃p a1,a=p::a1∧F.qcb m a0 s0 z0 (li n x) (li n o) (tabC n x o cx co) (tabR n x o cx co) (li n cx)=some (p.1,p.2,true,s1,a1,((c1:Nat):Int)):=by
  intro a s1 c1 v1 ha hal hc1 hw hl a0 s0 z0 he
  cases a with
  | nil=>exact absurd rfl ha
  | cons p a1=>
   refine ⟨p,a1,rfl,?_⟩
   unfold F.qcb
   rw [he,bB]
   dsimp only
   have hg:Ev.get (p::a1) (0:Int)=some p:=rfl
   rw [List.length_cons] at hal
   rw [hg,bB,cut_ok (by omega) (by rw [List.length_cons]; omega) (by omega),bB]
   have:((p::a1).drop (1:Int).toNat).take (((p::a1).length:Int).toNat-(1:Int).toNat)=a1:=by
    show a1.take _=a1
    exact List.take_of_length_le (by rw [Int.toNat_natCast,List.length_cons]; show a1.length≤a1.length+1-1; omega)
   rw [this]
 by_cases ha:a=[]
 ·
  subst ha
  rw [List.nil_append]
  rcases g.next_loop h m hm hc m hv with ⟨h1,h2⟩ | ⟨a,s1,c1,v1,h1,h2,h3,h4,h5,h6,h7⟩
  ·
   refine .inl ⟨h1,?_⟩
   unfold F.qcb
   rw [h2,bB]
  ·
   obtain ⟨p,a1,rfl,e⟩:=key a s1 c1 v1 h1 h2 h3 h5 h7 _ _ _ h4
   rw [List.length_cons] at h2
   exact .inr ⟨p,a1,s1,c1,v1,by omega,h3,e,h5,by rw [h6]; rfl,h7⟩
 ·
  have hl:loopN m (F.qbh m (li n o) (tabC n x o cx co) (tabR n x o cx co) (li n cx)) (a,s,(c:Int))=some (.inl (a,s,((c:Nat):Int))):=by
   obtain ⟨k,rfl⟩: ∃j,m=j+1:=⟨m-1,by omega⟩
   simp only [loopN,g.c1_full ha (k+1),bB]
  obtain ⟨p,a1,rfl,e⟩:=key a s c v ha hal hc h (Nat.le_refl _) _ _ _ hl
  rw [List.length_cons] at hal
  exact .inr ⟨p,a1,s,c,v,by omega,hc,e,h,rfl,Nat.le_refl _⟩
theorem Gd.collect {s':List Bool} {c':Nat} (m:Nat) (hm:100<m) (sg:List Int): ∀(R:List (Int×Int)) (l a:List (Int×Int)) (p:Int×Int) (s:List Bool) (c:Nat) (v:List Nat) (k:Nat),Wk (fun c=>cx (o c)) s c v s' c'→c<n→v.length<m→a.length≤80→R=a++pss n x o cx co v→l.length+R.length≤100000→R.length+1<k→
  loopN k (F.qbo m (li n x) (li n o) (sg,tabC n x o cx co,tabR n x o cx co) (li n cx)) (l,true,s,(c:Int),a,p.1,p.2)=some (l++p::R,false,s',(c':Int),[],0,0):=by
 intro R
 induction R with
 | nil=>
  intro l a p s c v k hw hc hv ha hR hl hk
  obtain ⟨k,rfl⟩: ∃j,k=j+2:=⟨k-2,by simp at hk; omega⟩
  have hb:F.qbo m (li n x) (li n o) (sg,tabC n x o cx co,tabR n x o cx co) (li n cx) (l,true,s,(c:Int),a,p.1,p.2)=some (.inl (l++[p],false,s',(c':Int),[],0,0)):=by
   rcases g.next hw m hm hc hv a ha with ⟨_,h2⟩ | ⟨q,a1,s1,c1,v1,_,_,_,_,h3,_⟩
   ·
    unfold F.qbo
    dsimp only
    rw [kT,qct (by simp only [List.length_cons,List.length_nil] at hl⊢; omega),bB,h2,bB]
   · rw [h3] at hR; cases hR
  have he:F.qbo m (li n x) (li n o) (sg,tabC n x o cx co,tabR n x o cx co) (li n cx) (l++[p],false,s',(c':Int),[],0,0)=some (.inr (l++[p],false,s',(c':Int),[],0,0)):=by
   unfold F.qbo
   dsimp only
   rw [kF]
  simp only [loopN,hb,he,bB]
 | cons r R ih=>
  intro l a p s c v k hw hc hv ha hR hl hk
  rw [List.length_cons] at hl hk
  obtain ⟨k,rfl⟩: ∃j,k=j+1:=⟨k-1,by omega⟩
  rcases g.next hw m hm hc hv a ha with ⟨h1,_⟩ | ⟨q,a1,s1,c1,v1,h2,h3,h4,h5,h6,h7⟩
  · rw [h1] at hR; cases hR
  ·
   rw [h6] at hR
   injection hR with e1 e2
   subst e1
   have hb:F.qbo m (li n x) (li n o) (sg,tabC n x o cx co,tabR n x o cx co) (li n cx) (l,true,s,(c:Int),a,p.1,p.2)=some (.inl (l++[p],true,s1,(c1:Int),a1,r.1,r.2)):=by
    unfold F.qbo
    dsimp only
    rw [kT,qct (by simp only [List.length_cons,List.length_nil]; omega),bB,h4,bB]
   simp only [loopN,hb,bB]
   rw [ih (l++[p]) a1 r s1 c1 v1 k h5 h3 (by omega) h2 e2 (by simp only [List.length_append,List.length_cons,List.length_nil]; omega) (by omega)]
   rw [List.append_assoc]
   rfl
theorem Gd.gather {s s':List Bool} {c c':Nat} {v:List Nat} (h:Wk (fun c=>cx (o c)) s c v s' c') (m:Nat) (hm:10000<m) (hc:c<n) (hv:v.length≤40) (sg:List Int) (hl:(pss n x o cx co v).length≤5000):
  ∃y,F.qcb m [] s (c:Int) (li n x) (li n o) (tabC n x o cx co) (tabR n x o cx co) (li n cx)=some y∧
   loopN m (F.qbo m (li n x) (li n o) (sg,tabC n x o cx co,tabR n x o cx co) (li n cx)) ([],y.2.2.1,y.2.2.2.1,y.2.2.2.2.2,y.2.2.2.2.1,y.1,y.2.1)=some (pss n x o cx co v,false,s',(c':Int),[],0,0):=by
 rcases g.next h m (by omega) hc (by omega) [] (by simp) with ⟨h1,h2⟩ | ⟨q,a1,s1,c1,v1,h2,h3,h4,h5,h6,h7⟩
 ·
  refine ⟨_,h2,?_⟩
  rw [List.nil_append] at h1
  rw [h1]
  obtain ⟨k,rfl⟩: ∃j,m=j+1:=⟨m-1,by omega⟩
  have he:F.qbo (k+1) (li n x) (li n o) (sg,tabC n x o cx co,tabR n x o cx co) (li n cx) ([],false,s',(c':Int),[],0,0)=some (.inr ([],false,s',(c':Int),[],0,0)):=by
   unfold F.qbo
   dsimp only
   rw [kF]
  simp only [loopN,he,bB]
 ·
  refine ⟨_,h4,?_⟩
  rw [List.nil_append] at h6
  rw [h6,List.length_cons] at hl
  have:=g.collect m (by omega) sg (a1++pss n x o cx co v1) [] a1 q s1 c1 v1 m h5 h3 (by omega) h2 rfl (by rw [List.length_nil]; omega) (by omega)
  rw [h6]
  exact this
