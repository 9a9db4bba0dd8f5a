/-
  19.
-/
import Derived.Test.YtpabnmeponmonaaGreatDoorZTopCrashes18
set_option maxRecDepth 10000
set_option maxHeartbeats 4000000
open List Go.Proofs.Tryz Go.Sl
namespace Go.Proofs.YtpabnmeponmonaaGreatDoor
section
variable (T:TypeId)(fr:Nat×Nat)(p:Nat)(qs:List Nat)(t pool:Nat)(tp:Tp)(pr:Bool)(n:Nat)(ls:List (Option Lv))(no:Nat)(V:Chunk)(hV:iZ t pool tp pr n ls no V)(ok:dj tp pr n ls.length)(dq:n<=2048)(hall:∀x∈ls,x≠none)
variable (s al:Nat)(ra rd ae note:Nat)(g gt:Nat)(eV:1<=gt/\gt<=281474976710656)
include hV ok dq hall eV
theorem Sz (P:PS)(c:Nat)(a:Nat)(o:Ob)(A:Chunk)(CB:XU a o A)(rS:o.clean=false)(NL:Nat)(hNL:NL<=64)(hP:uT qs pr ls n P (c+yf NL+o.fresh.length))(XD:∀e∈o.fresh,0<=e.1/\e.1<NL/\e.2.length<=1024)(ju:o.fresh.length<=64)(mU:o.aA.length<=NL)(nC:∀x∈o.aA,fK x=0/\x.Ok)(G C Al:Chunk)(hG:ri g s gt ((aL pr ls.length 1024:Nat):Int) P.ks G)(hC:bj p qs P.R C)(hA:qg al ((bD pr ls.length n:Nat):Int) ((aL pr ls.length 1024:Nat):Int) P.x Al) :
  Ct 67 [ptr g,ptr a] [G,[(s,bU t (ptr al) ra rd ae note)],gK T fr,C,V,Al,A] fun u Bs=>((∃v,u = .tuple #[v,.int .i64 5])/\Cb T fr p qs pr ls n [(s,bU t (ptr al) ra rd ae note)] P.R P.x.D Bs)\/∃P' a' o' A',nM pr ls n gt P o P' o'/\uT qs pr ls n P' c/\XU a' o' A'/\u = .tuple #[ptr a',.int .i64 0] /\
   ∃G' C' jO,ri g s gt ((aL pr ls.length 1024:Nat):Int) P'.ks G'/\bj p qs P'.R C'/\qg al ((bD pr ls.length n:Nat):Int) ((aL pr ls.length 1024:Nat):Int) P'.x jO/\Bs=[G',[(s,bU t (ptr al) ra rd ae note)],gK T fr,C',V,jO,A,A']:=by
 have hz:=Rr pr ok.hw ⟨ok.hn.1,dq⟩
 have bR:=fun P c hP G C Al hG hC hA b L hL Mn O v hO=>Ki T fr p qs t pool tp pr n ls no V hV ok dq hall s al ra rd ae note g gt eV P c hP G C Al hG hC hA b L hL Mn O v hO
 obtain ⟨jM,cP,DP,eb,cI,DX,r,LF,CF,VF,VJ,Br,hM,hF,rfl⟩:=CB
 have Gp:=hF.keys
 have hLF:LF.length=o.fresh.length:=by have:=congrArg List.length Gp;simpa using this.symm
 have eF:=hM.nodup
 refine st func67 fun w0 => ?_
 rw [rS]
 refine gs ?_
 refine vY .i64 ?_;intro r6 C6 h6
 refine ga ?_;intro a'
 refine gc (eG DP jM o.aA.length cP _ VJ.rd oZ) ?_
 rintro _ _ ⟨iY,c1,D1,rfl,Cp,rfl⟩
 refine gc (Ua r) ?_
 rintro _ _ ⟨bk,rfl,rfl⟩
 refine gc (OZ bk r LF CF hM oZ) ?_
 rintro _ _ ⟨kl,adK,cK,DK,HP,afZ,rfl,hDK,rfl⟩
 have aa8:=hDK.rd
 have kI:kl.length=LF.length:=by have:=HP.length_eq;simpa using this
 refine gl [0,1,6,37,38] (fun ((i,_):Nat×List Pt×Option Addr×Nat×Chunk×PS×Chunk×Chunk×Chunk)=>[(39,.int .i64 i)]) (fun (_,l1,iY,c1,D1,P1,G,C,Al)=>[[(a',yx o.used o.size o.root (.slice iY l1.length c1) (.slice none 0 0) r6 true)],D1,G,C,Al]) (fun (i,l1,iY,c1,D1,P1,G,C,Al)=>i<=kl.length/\aC D1 121 9 (.slice iY l1.length c1) l1.length (aR l1)/\l1.length<=NL/\(∀x∈l1,fK x=0/\x.Ok)/\Fq pr ls n gt o.fresh P o.aA (kl.take i) P1 l1/\uT qs pr ls n P1 (c+yf NL+(o.fresh.length - i))/\ri g s gt ((aL pr ls.length 1024:Nat):Int) P1.ks G/\bj p qs P1.R C/\qg al ((bD pr ls.length n:Nat):Int) ((aL pr ls.length 1024:Nat):Int) P1.x Al) (fun (i,_)=>kl.length - i) (0,o.aA,iY,c1,D1,P,G,C,Al) ⟨by omega,Cp,mU,nC,.nil,hP,hG,hC,hA⟩ ?_
 clear Cp hP hG hC hA
 rintro ⟨i,l1,iY,c1,D1,P1,G,C,Al⟩ ⟨hi,Cp,uk,RW,pv,hP1,hG,hC,hA⟩
 refine gi ?_ ?_ <;> intro br
 ·have bh:i<kl.length:=oZ
  obtain ⟨kz,jN⟩:∃kz,kz=kl[i]:=⟨_,rfl⟩
  have Th:(ints kl)[i]? = some (.int .i64 kz):=by rw [jN];simp [ints,bh]
  have hkm:kz∈LF.map (·.1):=HP.mem_iff.1 (by rw [jN];exact getElem_mem _)
  rcases hF.look kz with ⟨e1,e2, -⟩ | ⟨v9,b9,U1,D9,U2,e1,e2,rfl,Gq, -, -⟩
  ·exact absurd (by rw [Gp];exact hkm) (q9 e2)
  ·have aa9:=XD _ (aI e2)
   obtain ⟨k,rfl⟩:∃k:Nat,kz=k:=⟨kz.toNat,by have:=aa9.1;simp only at this;omega⟩
   have RZ:k<NL:=by have:=aa9.2.1;simp only at this;omega
   have hb9:b9.length<=1024:=aa9.2.2
   have HS:aC D9 5 1 v9 b9.length (au b9):=Gq
   obtain ⟨NG,c9,rfl⟩:=HS.slice
   obtain ⟨gK_,oK_,rfl⟩:=aa8.addr oZ
   refine gs ?_
   refine gl [0,1,6,8,37,38,39] (fun (_:List Pt×Option Addr×Nat×Chunk)=>[]) (fun (l2,ad2,c2,D2)=>[[(a',yx o.used o.size o.root (.slice ad2 l2.length c2) (.slice none 0 0) r6 true)],D2]) (fun (l2,ad2,c2,D2)=>aC D2 121 9 (.slice ad2 l2.length c2) l2.length (aR l2)/\l2.length<=NL/\(∀x∈l2,fK x=0/\x.Ok)/\pT l2 k=pT l1 k) (fun (l2,_)=>64 - l2.length) (l1,iY,c1,D1) ⟨Cp,uk,RW,rfl⟩ ?_
   clear Cp
   rintro ⟨l2,ad2,c2,D2⟩ ⟨Dy,jK,adh,aba⟩
   refine gi ?_ ?_ <;> intro hlen
   ·refine gm ?_;intro b56
    refine gp ?_;intro ia c3 D3 ZI
    have hl3:(l2++[ai]).length=l2.length+1:=by simp
    refine gn ?_
    refine ⟨(l2++[ai],ia,c3,D3),⟨by rw [hl3];simpa [aR,Pt.lay,ai] using ZI,by omega,fun x hx => ?_,by rw [<-aba];exact (ML oZ).symm⟩,sOZ,ar,_,(by simp only [hl3];exact aa)⟩
    rcases List.mem_append.1 hx with hx | hx
    ·exact adh x hx
    ·rw [mem_singleton.1 hx];exact ⟨by simp [fK],dK⟩
   ·have iy:k<l2.length:=oZ
    rw [MM iy] at aba
    have yM:uT qs pr ls n P1 (c+yf NL+(o.fresh.length - (i+1))+1):=hP1.le oZ
    have ue:=bR P1 _ yM G C Al hG hC hA b9 _ rfl hb9 D9 _ HS.rd
    obtain ⟨gP,cP2,rP,hvP,rfl,af0,af1,af2⟩:=Dy.opened oZ
    cases hvP
    refine gs ?_
    refine gc ue ?_
    rintro _ _ (⟨rfl,hf⟩ | ⟨P2,pt,xS,mF,rfl,G',C',jO,zp,bF,eo,rfl⟩)
    ·obtain ⟨lF,CF,f1,f2,f3,rfl⟩:=hf.back (pv.CE fun e he=>(XD e he).2.2)
     refine ga ?_;intro b9_
     refine gz ?_
     exact fin (.inl ⟨⟨_,rfl⟩,lF,CF,f1,f2,f3,rfl⟩) aa
    refine ga ?_;intro b9_
    refine gse Pt.lay pt l2 k 9 (fun _=>rfl) ?_
    have eQ:(l2.set k pt).length=l2.length:=length_set ..
    refine gn ?_
    refine ⟨(i+1,l2.set k pt,some ⟨gP,0,none⟩,c2,_,P2,G',C',jO),⟨by omega,by rw [eQ];exact ⟨by rw [gA (lay:=Pt.lay) (s:=9) (fun _=>rfl),eQ],Ft _,.inr ⟨gP,c2,rP,rfl,rfl,af0,af1,by rw [<-af2,gA (lay:=Pt.lay) (s:=9) (fun _=>rfl),eQ,gA (lay:=Pt.lay) (s:=9) (fun _=>rfl)]⟩⟩,by omega,fun x hx => ?_, ?_,mF.okx ok.hw ok.hp hb9 yM xS,zp,bF,eo⟩,sOZ,ar,_,by simp only [eQ];exact aa⟩
    ·rcases mem_or_eq_of_mem_set hx with hx | rfl
     ·exact adh x hx
     ·exact mF.pok hz hb9 eV
    ·rw [iB bh,<-jN,aba]
     exact .snoc pv e2 mF
 ·obtain rfl:i=kl.length:=oZ
  rw [take_of_length_le oZ] at pv
  have yM:uT qs pr ls n P1 (c+yf l1.length):=hP1.le (by have:=Rt uk;omega)
  have hov:=aa5 T fr p qs t pool tp pr n ls no V hV ok dq hall s al ra rd ae note g gt eV P1 c l1 l1.length rfl oZ RW yM G C Al hG hC hA D1 iY c1 Cp.rd Cp.eH
  refine gc hov ?_
  rintro _ _ (⟨rfl,hf⟩ | ⟨P2,idx,root,adX,cX,DX',adi,Kj,rfl,hDX,G',C',jO,zp,bF,eo,rfl⟩)
  ·obtain ⟨lF,CF,f1,f2,f3,rfl⟩:=hf.back (pv.CE fun e he=>(XD e he).2.2)
   refine gz ?_
   exact fin (.inl ⟨⟨_,rfl⟩,lF,CF,f1,f2,f3,rfl⟩) aa
  refine gz ?_
  exact fin (.inr ⟨P2,a',{ o with root:=root,aA:=l1,index:=idx,fresh:=[],clean:=true },_,⟨kl,P1,l1,idx,root,by rw [Gp];exact HP,afZ,pv,adi,rfl⟩,Kj,⟨iY,c1,D1,adX,cX,DX',r6,[],C6,[],Cp,hDX,h6,rfl,rfl⟩,rfl,G',C',jO,zp,bF,eo,rfl⟩) aa
theorem WM (P:PS)(c:Nat)(a:Nat)(o:Ob)(A:Chunk)(CB:XU a o A)(NL:Nat)(hNL:NL<=64)(ho:BG NL o)(hP:uT qs pr ls n P (c+Fv NL o))(G C Al:Chunk)(hG:ri g s gt ((aL pr ls.length 1024:Nat):Int) P.ks G)(hC:bj p qs P.R C)(hA:qg al ((bD pr ls.length n:Nat):Int) ((aL pr ls.length 1024:Nat):Int) P.x Al) :
  Ct 67 [ptr g,ptr a] [G,[(s,bU t (ptr al) ra rd ae note)],gK T fr,C,V,Al,A] fun u Bs=>((∃v,u = .tuple #[v,.int .i64 5])/\Cb T fr p qs pr ls n [(s,bU t (ptr al) ra rd ae note)] P.R P.x.D Bs)\/∃P' a' o' X A',nO pr ls n gt P o P' o'/\uT qs pr ls n P' c/\XU a' o' A'/\u = .tuple #[ptr a',.int .i64 0] /\
   ∃G' C' jO,ri g s gt ((aL pr ls.length 1024:Nat):Int) P'.ks G'/\bj p qs P'.R C'/\qg al ((bD pr ls.length n:Nat):Int) ((aL pr ls.length 1024:Nat):Int) P'.x jO/\Bs=[G',[(s,bU t (ptr al) ra rd ae note)],gK T fr,C',V,jO,X,A']:=by
 cases rS:o.clean with
 | false =>
  unfold Fv at hP
  rw [rS,if_neg dZ] at hP
  refine (Sz T fr p qs t pool tp pr n ls no V hV ok dq hall s al ra rd ae note g gt eV P c a o A CB rS NL hNL (by rw [Nat.add_assoc];exact hP) ho.fk ho.fl ho.pl ho.po G C Al hG hC hA).post fun u Bs => ?_
  rintro (h | ⟨P',a',o',A',h1,h2,h3,rfl,G',C',jO,zp,bF,eo,rfl⟩)
  ·exact .inl h
  exact .inr ⟨P',a',o',A,A',.inr ⟨rS,h1⟩,h2,h3,rfl,G',C',jO,zp,bF,eo,rfl⟩
 | true =>
  unfold Fv at hP
  rw [rS,if_pos rfl] at hP
  have VY:=CB
  obtain ⟨jM,cP,DP,eb,cI,DX,r,LF,CF,VF,VJ,Br,hM,hF,rfl⟩:=CB
  rw [rS] at VY ⊢
  refine st func67 fun w0 => ?_
  refine gs ?_
  refine gz ?_
  exact fin (.inr ⟨P,a,o,[],_,.inl ⟨rS,rfl,rfl⟩,hP,VY,rfl,G,C,Al,hG,hC,hA,rfl⟩) aa
end
end Go.Proofs.YtpabnmeponmonaaGreatDoor
namespace Go.Sl
theorem Kk {ls:List (Option Lv)}{n:Nat}{u:Ub}(h:ls.length<=5):(eA n ls u).length<=20:=by
 have:=bY (f:=Cz n ls u) (c:=4) (fun k=>by
  unfold Cz
  split
  ·exact Nat.le_trans (bY (f:=ji n _ u) (c:=1) (fun k=>by unfold ji;rw [eT];simp) 4) oZ
  ·simp) ls.length
 unfold eA;omega
theorem WN {s m:Int}{mn g:Nat}{a:Rm}{od nd:List (Int×List Pt)}(ho:rA mn a od)(ha:a.Ok s m):∃fs:List Pt,fs.Nodup/\(∀x,x∈fs↔x∈aY od/\x∉aY nd)/\je s m mn g a fs:=by
 have h:∀L:List Pt,(∀x∈L,x∈aY od)->∃fs:List Pt,fs.Nodup/\(∀x,x∈fs↔x∈L/\x∉aY nd)/\je s m mn g a fs:=by
  intro L
  induction L with
  | nil=>exact fun _=>⟨[],nodup_nil,fun x=>by simp,.nil ha⟩
  | cons x L ih =>
   intro hL
   obtain ⟨fs,h1,h2,h3⟩:=ih fun y hy=>hL y (mem_cons_of_mem _ hy)
   by_cases c:x∈aY nd\/x∈fs
   ·refine ⟨fs,h1,fun y => ?_,h3⟩
    rw [h2,List.mem_cons]
    constructor
    ·exact fun ⟨k1,k2⟩=>⟨.inr k1,k2⟩
    ·rintro ⟨rfl | k1,k2⟩
     ·exact (h2 _).1 (c.resolve_left k2)
     ·exact ⟨k1,k2⟩
   ·rw [not_or] at c
    refine ⟨fs++[x], ?_,fun y => ?_,(h3.snoc ho (fun y hy=>hL y (mem_cons_of_mem _ ((h2 y).1 hy).1)) (hL x (mem_cons_self ..)) c.2).2.2⟩
    ·rw [nodup_append]
     exact ⟨h1,by simp,fun y hy z hz e=>by rw [mem_singleton.1 hz] at e;exact c.2 (e ▸ hy)⟩
    ·simp only [List.mem_append,h2,List.mem_cons,not_mem_nil,or_false]
     constructor
     ·rintro (⟨k1,k2⟩ | rfl)
      ·exact ⟨.inr k1,k2⟩
      ·exact ⟨.inl rfl,c.1⟩
     ·rintro ⟨rfl | k1,k2⟩
      ·exact .inr rfl
      ·exact .inl ⟨k1,k2⟩
 exact h _ fun _ h=>h
section
variable {pr:Bool}{ls:List (Option Lv)}{n gt:Nat}{P P':PS}(hz:bD pr ls.length n<=10240)(eV:1<=gt/\gt<=281474976710656)
include hz eV
theorem nM.CE {NL:Nat}{o o':Ob}(hN:NL<=64)(ho:BG NL o)(h:nM pr ls n gt P o P' o'):M4 pr ls n P P':=by
 obtain ⟨ks,P1,l1,idx,root, -, -,h1,h2, -⟩:=h
 exact (h1.CE fun e he=>(ho.fk e he).2.2).trans (h2.CE (Nat.le_trans (h1.RA hz eV ho.fk ho.pl ho.po).1 hN))
theorem iu.CE {all os:List (Int×Ob)}{ks:List Int}{ds:List (Int×List Pt)}(ho:∀k o,aJ all k=some o->∃NL,NL<=64/\BG NL o)(h:iu pr ls n gt all P ks P' os ds):M4 pr ls n P P':=by
 induction h with
 | nil=>exact .rfl
 | snoc _ hl h ih =>
  obtain ⟨NL,h1,h2⟩:=ho _ _ hl
  rcases h with ⟨-,rfl, -⟩ | ⟨-,h⟩
  ·exact ih
  ·exact ih.trans (h.CE hz eV h1 h2)
end
end Go.Sl
namespace Go.Proofs.YtpabnmeponmonaaGreatDoor
section
variable (T:TypeId)(fr:Nat×Nat)(p:Nat)(qs:List Nat)(t pool:Nat)(tp:Tp)(pr:Bool)(n:Nat)(ls:List (Option Lv))(no:Nat)(V:Chunk)(hV:iZ t pool tp pr n ls no V)
variable (ok:dj tp pr n ls.length)(hall:∀x∈ls,x≠none)(R:Rk)(C:Chunk)(hC:bj p qs R C)(ho:dE qs R n ls)
variable (s:Nat)(vA:Value)(ra rd ae note:Nat)
include hV ok hall hC ho
theorem SA (x:Pt)(hx:fK x=0)(Cq:x.Ok)(ba:Nat)(tB:pool<18446744073709551616)(Fu:ba<18446744073709551616)(yD:ae+1<=281474976710656)(hxb:x.bg<=ae+1)(hw:R.ws.length+80<=900000000000) :
  Ct 46 [ptr s,x.agg,.int .u64 ba] [[(s,bU t vA ra rd ae note)],gK T fr,C,V] fun u Bs=>(u = .int .i64 5/\(R.run (eA n ls ⟨pool,ae+1,ba,x⟩)).off=true/\∃C',bj p qs (R.run (eA n ls ⟨pool,ae+1,ba,x⟩)) C'/\Bs=[[(s,bU t vA ra rd ae note)],gK T fr,C'])\/(u = .int .i64 0/\(R.run (eA n ls ⟨pool,ae+1,ba,x⟩)).off=false/\∃C',bj p qs ((R.run (eA n ls ⟨pool,ae+1,ba,x⟩)).run (de ls)) C'/\Bs=[[(s,bU t vA ra rd (ae+1) ba)],gK T fr,C',V]):=by
 have nC:=J3 t pool tp pr n ls no V hV
 have Bh:=Bi T fr p qs t pool tp pr n ls no V hV ok R C hC ho hall ⟨pool,ae+1,ba,x⟩ (if_pos ⟨sOZ,sOZ,hx,hxb⟩) ⟨tB,sOZ,Fu,Cq⟩ rfl oZ
 have ju:=fun C' bF=>qX (p:=p) (qs:=qs) (t:=t) (hV:=hV) (ok:=ok) (R:=R.run (eA n ls ⟨pool,ae+1,ba,x⟩)) (C:=C') (hC:=bF) (ho:=ho.run _) (hall:=hall)
 rw [uP] at ju
 have mX:IntKind.u64.wrap ((ae:Int)+1)=((ae+1:Nat):Int):=by rw [IntWalk.u64_in _ oZ];omega
 refine st func46 fun w0 => ?_
 refine ga ?_;intro b4
 refine gdo (aB.cons (0,0) (aB.cons (1,0) (aB.cons (2,0) (aB.cons (3,0) (aB.cons (5,0) (aB.cons (6,0) (aB.cons (7,0) (aB.cons (8,0) (aB.cons (9,0) (aB.cons (10,0) (aB.cons (11,0) (aB.fork 4 (aB.yh [(12,0),(13,1),(14,3)]) 13 (aB.yh [(4,1),(12,0),(14,3)]))))))))))))) ?_
 refine gk ?_ ?_
 case' refine_2 =>
  refine ga ?_;intro b7
  refine gc nC ?_
  rintro _ _ ⟨rfl,rfl⟩
  refine go ?_
 case' refine_1 =>
  refine gc nC ?_
  rintro _ _ ⟨rfl,rfl⟩
  refine ga ?_;intro b7
  refine go ?_
 all_goals
  refine rQ [[(s,bU t vA ra rd ae note)],[(b7,ax (⟨pool,ae+1,ba,x⟩:Ub).lay 123)]] [0,4,8,12,16,23,26] ?_
  cases hm:(R.run (eA n ls ⟨pool,ae+1,ba,x⟩)).off
  ·rw [hm] at Bh ju
   refine gc Bh ?_
   rintro _ _ ⟨C1,rfl,pF,rfl⟩
   refine gc (ju C1 pF) ?_
   rintro _ _ ⟨C2,rfl,yq,rfl⟩
   refine gz ?_
   exact fin (.inr ⟨rfl,rfl,C2,yq,rfl⟩) aa
  ·rw [hm] at Bh
   refine gc Bh ?_
   rintro _ _ ⟨C1,rfl,pF,rfl⟩
   refine gz ?_
   exact fin (.inl ⟨rfl,rfl,C1,pF,rfl⟩) aa
end
def adj (T:TypeId)(fr:Nat×Nat)(p:Nat)(qs:List Nat)(pr:Bool)(ls:List (Option Lv))(n:Nat)(S:Chunk)(ae pool ba:Nat)(all:List (Int×Ob))(od:List (Int×List Pt))(P:PS)(Bs:List Chunk):Prop :=
 Cb T fr p qs pr ls n S P.R P.x.D Bs\/∃ks os ds P2 mo fs C',J5 pr ls n ae all od P ks os ds P2 mo fs/\P2.R.off=false/\(((P2.R.run (de ls)).run (eA n ls ⟨pool,ae+1,ba,mo.root⟩)).off=true/\((P2.R.run (de ls)).run (eA n ls ⟨pool,ae+1,ba,mo.root⟩)).ws.length<=900000000000)/\bj p qs ((P2.R.run (de ls)).run (eA n ls ⟨pool,ae+1,ba,mo.root⟩)) C'/\Bs=[S,gK T fr,C']
section
variable (T:TypeId)(fr:Nat×Nat)(p:Nat)(qs:List Nat)(t pool:Nat)(tp:Tp)(pr:Bool)(n:Nat)(ls:List (Option Lv))(no:Nat)(V:Chunk)(hV:iZ t pool tp pr n ls no V)(ok:dj tp pr n ls.length)(dq:n<=2048)(hall:∀x∈ls,x≠none)
variable (s al:Nat)(ra rd ae note:Nat)
include hV ok dq hall
theorem FX (P:PS)(xT:P.ks=[])(LA:List (Int×Value))(all:List (Int×Ob))(CA VA:Chunk)(hMA:Mp ra .i64 LA CA)(JR:fo yd LA all VA)(XD:∀e∈all,1<=e.1/\e.1<=112)(JT:∀e∈all,BG (RB e.2.size) e.2/\e.2.size<=65536/\e.2.used=true)
  (Ld:List (Int×Value)) (od:List (Int×List Pt)) (CD VD:Chunk) (hD:Mp rd .i64 Ld CD) (hDV:fo QI Ld od VD) (ny:∀e∈od,e.2.length<=200) (m:Nat) (hm:m=aL pr ls.length 1024) (Tl:rA m P.x od) (Tw:P.x.Ok (bD pr ls.length n:Nat) (aL pr ls.length 1024:Nat))
  (ba:Nat) (tB:pool<18446744073709551616) (Fu:ba<18446744073709551616) (yD:ae+1<=281474976710656)
  (hP:uT qs pr ls n P (10+mG all (LA.map (·.1)))) (C Al:Chunk) (hC:bj p qs P.R C) (hA:qg al ((bD pr ls.length n:Nat):Int) ((aL pr ls.length 1024:Nat):Int) P.x Al) :
  Ct 23 [ptr s,.int .u64 ba] [[(s,bU t (ptr al) ra rd ae note)],gK T fr,C,V,CA,VA,CD,VD,Al] fun u Bs=>(u = .int .i64 5/\adj T fr p qs pr ls n [(s,bU t (ptr al) ra rd ae note)] ae pool ba all od P Bs)\/(u = .int .i64 0/\∃ks os ds P2 mo fs,((P2.R.run (de ls)).run (eA n ls ⟨pool,ae+1,ba,mo.root⟩)).off=false/\J5 pr ls n ae all od P ks os ds P2 mo fs/\∃r6 r7 LO LP C6 VO C7 VP C' jO,Mp r6 .i64 LO C6/\fo yd LO os VO/\Mp r7 .i64 LP C7/\fo QI LP ds VP/\uT qs pr ls n P2 0 /\
   bj p qs (((P2.R.run (de ls)).run (eA n ls ⟨pool,ae+1,ba,mo.root⟩)).run (de ls)) C'/\qg al ((bD pr ls.length n:Nat):Int) ((aL pr ls.length 1024:Nat):Int) ((bA (ae+1) P2.x (aL pr ls.length 1024) fs).sync ((ae+1:Nat):Int)) jO/\Bs=[[(s,bU t (ptr al) r6 r7 (ae+1) ba)],gK T fr,C',V,C6,VO,C7,VP,jO]):=by
 subst hm
 have hz:=ir pr ok.hw ⟨ok.hn.1,dq⟩
 have hmb:=tG pr ok.hw ok.hp
 have eV:1<=ae+1/\ae+1<=281474976710656:=oZ
 have mA:=JR.keys
 have adk:∀k o,aJ all k=some o->∃NL,NL<=64/\BG NL o:=fun k o h=>by
  have h1:=JT _ (aI h)
  exact ⟨_,by have:=h1.2.1;unfold RB dh;simp only at this;omega,h1.1⟩
 have eF:=hMA.nodup
 have hlen:LA.length<=112:=by
  have h1:(LA.map (·.1)).length<=((List.range 112).map fun (i:Nat)=>((i+1:Nat):Int)).length:=by
   refine fQ eF fun k hk => ?_
   rw [<-mA] at hk
   obtain ⟨e,he,rfl⟩:=mem_map.1 hk
   have:=XD e he
   exact mem_map.2 ⟨(e.1 - 1).toNat,by simp;omega,by omega⟩
  simpa using h1
 have mX:IntKind.u64.wrap ((ae:Int)+1)=((ae+1:Nat):Int):=by rw [IntWalk.u64_in _ oZ];omega
 refine st func23 fun w0 => ?_
 refine ga ?_;intro g
 refine vY .i64 ?_;intro r6 C6 h6
 refine vY .i64 ?_;intro r7 C7 h7
 refine gm ?_;intro g8 C8 Ns
 have hC:C8=[(g8,ax ((slotsOf []).flatMap fv.lay) 146)]:=by
  rcases Ns.2.2 with ⟨h,_⟩ | ⟨g',c',r',hv,rfl,_,_,hlen⟩
  ·cases h
  ·cases hv
   have h3:=Ns.1
   obtain rfl:r'=[]:=eq_nil_of_length_eq_zero oZ
   rw [append_nil]
   have:(replicate 112 eK.lay).flatten=(slotsOf []).flatMap fv.lay:=by
    rw [tJ,qW 112 eK fv.lay]
   rw [<-this];rfl
 subst hC
 clear Ns
 refine gc (sW s t (ptr al) ra rd ae note LA CA hMA hlen) ?_
 rintro _ _ ⟨ks,adK,cK,DK,HP, -,rfl,hDK,rfl⟩
 have aa8:=hDK.rd
 have AX:ks.Nodup:=HP.nodup_iff.2 eF
 have kI:ks.length=LA.length:=by simpa using HP.length_eq
 rw [Ia HP.symm] at hP
 have hki:∀k∈ks,∃o,aJ all k=some o/\1<=k/\k<=112:=fun k hk=>by
  have:=HP.mem_iff.1 hk
  rw [<-mA] at this
  obtain ⟨e,he,rfl⟩:=mem_map.1 this
  exact ⟨e.2,mj (by rw [mA];exact eF) he,XD e he⟩
 refine gl [0,1,5,6,7,8,32,33] (fun ((j,_):Nat×PS×List (Int×Ob)×List (Int×List Pt)×List (Int×Value)×List (Int×Value)×Chunk×Chunk×Chunk×Chunk×Chunk×Chunk×Chunk×Chunk)=>[(34,.int .i64 j)]) (fun (_,_,os,_,_,_,C6,VO,C7,VP,VR,G,C,Al)=>[[(g8,ax ((slotsOf os).flatMap fv.lay) 146)],C6,VO,C7,VP,VR,G,C,Al])
  (fun (j,P1,os,ds,LO,LP,C6,VO,C7,VP,VR,G,C,Al)=>j<=ks.length/\iu pr ls n (ae+1) all P (ks.take j) P1 os ds/\uT qs pr ls n P1 (10+mG all (ks.drop j))/\Mp r6 .i64 LO C6/\fo yd LO os VO/\Mp r7 .i64 LP C7/\fo QI LP ds VP/\fo yd (ua (ks.take j) LA) (ua (ks.take j) all) VR/\(∀e∈os,(e.2.slot.Ok/\e.2.aA.length<=64/\e.2.index.length<=5))/\(∀e∈ds,e.2.length<=200)/\ri g s (ae+1) ((aL pr ls.length 1024:Nat):Int) P1.ks G/\bj p qs P1.R C/\qg al ((bD pr ls.length n:Nat):Int) ((aL pr ls.length 1024:Nat):Int) P1.x Al) (fun (j,_)=>ks.length - j) (0,P,[],[],[],[],C6,[],C7,[],VA,[(g,ax [ptr s,.int .u64 ((ae+1:Nat):Int),.slice none 0 0] 140)],C,Al) ⟨by omega,.nil,hP,h6,rfl,h7,rfl,by rw [take_zero,Fw,Fw];exact JR,fun _ h=>(not_mem_nil h).elim,fun _ h=>(not_mem_nil h).elim,⟨none,0,[],by rw [xT];exact aC.nil _ _,by rw [xT];rfl⟩,hC,hA⟩ ?_
 clear h6 h7 JR hC hA hP
 rintro ⟨j,P1,os,ds,LO,LP,C6,VO,C7,VP,VR,G,C,Al⟩ ⟨hj,hR,hP,h6,hVO,h7,hVP,hVR,QY,zf,hG,hC,hA⟩
 have hRk:=hR.keys
 refine gi ?_ ?_ <;> intro br
 ·have bh:j<ks.length:=oZ
  obtain ⟨gK_,oK_,rfl⟩:=aa8.addr oZ
  obtain ⟨kz,jN⟩:∃kz,kz=ks[j]:=⟨_,rfl⟩
  have Th:(ints ks)[j]? = some (.int .i64 kz):=by rw [jN];simp [ints,bh]
  obtain ⟨o,tL,hk1⟩:=hki ks[j] (getElem_mem bh)
  rw [<-jN] at tL hk1
  obtain ⟨kk,rfl⟩:∃kk:Nat,kz=((kk+1:Nat):Int):=⟨(kz - 1).toNat,by omega⟩
  have Te:IntKind.i64.wrap (((kk+1:Nat):Int) - 1)=((kk:Nat):Int):=by rw [IntWalk.i64_in _ oZ];omega
  have af3:kk<112:=oZ
  have fS:=ej os
  have WQ:((kk+1:Nat):Int)∉ks.take j:=fun h=>by
   obtain ⟨i,hi,e⟩:=getElem_of_mem h
   rw [getElem_take,jN] at e
   rw [length_take] at hi
   exact pairwise_iff_getElem.1 AX i j oZ bh oZ e
  obtain ⟨v,xg⟩:∃v,kx LA ((kk+1:Nat):Int)=some v:=by
   have sj:((kk+1:Nat):Int)∈LA.map (·.1):=HP.mem_iff.1 (by rw [jN];exact getElem_mem _)
   obtain ⟨e,he,e2⟩:=mem_map.1 sj
   exact ⟨e.2,by rw [<-e2];exact mj eF he⟩
  obtain ⟨o2,V1,D,V2,jK,rfl,⟨a,rfl,CB⟩,QS⟩:=hVR.cut (by exact (filter_sublist.map _).nodup eF) (show kx (ua (ks.take j) LA) ((kk+1:Nat):Int)=some v by show aJ _ _=_;rw [BE WQ];exact xg)
  obtain rfl:o=o2:=by rw [BE WQ,tL] at jK;exact Option.some.inj jK
  rw [show iN (ua (ks.take j) LA) ((kk+1:Nat):Int)=ua (ks.take (j+1)) LA by rw [aK ks bh,<-jN];exact zE _ _ _,zE,jN,<-aK ks bh] at QS
  have Vw:=JT _ (aI tL)
  have hNL:RB o.size<=64:=by have:=Vw.2.1;unfold RB dh;simp only at this;omega
  have adm:mG all (ks.drop j)=Fv (RB o.size) o+mG all (ks.drop (j+1)):=by
   rw [drop_eq_getElem_cons bh,<-jN]
   simp only [mG,Fy,map_cons,sum_cons,tL]
  have hP':uT qs pr ls n P1 (10+mG all (ks.drop (j+1))+Fv (RB o.size) o):=by rw [adm] at hP;exact hP.le oZ
  have Dc:=WM T fr p qs t pool tp pr n ls no V hV ok dq hall s al ra rd ae note g (ae+1) eV P1 _ a o D CB _ hNL Vw.1 hP' G C Al hG hC hA
  refine gs ?_
  refine gc Dc ?_
  rintro _ _ (⟨⟨vF,rfl⟩,hf⟩ | ⟨P2,a',o',X,A',NJ,Kj,⟨jM,cP,DP,eb,cI,DX,r,LF,CF,VF,VJ,Br,hM,hF,rfl⟩,rfl,G',C',jO,zp,bF,eo,rfl⟩)
  ·obtain ⟨lF,CF,f1,f2,f3,rfl⟩:=hf.back (hR.CE hz.2 eV adk)
   refine gz ?_
   exact fin (.inl ⟨rfl,.inl ⟨lF,CF,f1,f2,f3,rfl⟩⟩) aa
  obtain ⟨g1,g2,g3,g4,g5,g6⟩:=NJ.RA hz.2 eV hNL Vw.1
  have hpp:=uK a' o' jM cP DP eb cI DX r VJ Br oZ oZ
  refine gs ?_
  refine rQ [[(a',yx o'.used o'.size o'.root (.slice jM o'.aA.length cP) (.slice eb o'.index.length cI) r o'.clean)]] [0,4,8,12,16,20,24,28,32,36,40,44,48,53,57,60,65,71] ?_
  refine gc hpp ?_
  rintro _ _ ⟨j7,cq,Dq,rfl,hDq,rfl⟩
  refine gu ?_
  intro C6' h6'
  refine afx fv.lay o'.slot (slotsOf os) kk 11 fv.ak ?_
  refine gu ?_
  intro C7' h7'
  have mh:((kk+1:Nat):Int)∉os.map (·.1):=by rw [hRk.1];exact WQ
  have SB:((kk+1:Nat):Int)∉ds.map (·.1):=by rw [hRk.2];exact WQ
  have hnO:((kk+1:Nat):Int)∉LO.map (·.1):=by rw [<-hVO.keys];exact mh
  have hnP:((kk+1:Nat):Int)∉LP.map (·.1):=by rw [<-hVP.keys];exact SB
  rw [<-BF af3 mh]
  have af4:fo yd (iw LO ((kk+1:Nat):Int) (ptr a')) (os++[(((kk+1:Nat):Int),o')]) (VO++([(a',yx o'.used o'.size o'.root (.slice jM o'.aA.length cP) (.slice eb o'.index.length cI) r o'.clean)]++(DP++(DX++(CF++VF))))):=by
   rcases hVO.look ((kk+1:Nat):Int) with ⟨-, -,h3⟩ | ⟨v,x,W1,E1,W2, -,h2, -⟩
   ·rw [<-nP mh]
    exact h3 _ _ _ ⟨a',rfl,jM,cP,DP,eb,cI,DX,r,LF,CF,VF,VJ,Br,hM,hF,rfl⟩
   ·rw [kD mh] at h2;cases h2
  have WR:fo QI (iw LP ((kk+1:Nat):Int) (.slice j7 (bL (o'.aA++o'.index)).length cq)) (ds++[(((kk+1:Nat):Int),bL (o'.aA++o'.index))]) (VP++Dq):=by
   rcases hVP.look ((kk+1:Nat):Int) with ⟨-, -,h3⟩ | ⟨v,x,W1,E1,W2, -,h2, -⟩
   ·rw [<-nP SB]
    exact h3 _ _ _ hDq
   ·rw [kD SB] at h2;cases h2
  refine gn ?_
  refine ⟨(j+1,P2,os++[(((kk+1:Nat):Int),o')],ds++[(((kk+1:Nat):Int),bL (o'.aA++o'.index))],_,_,C6',_,C7',_,V1++V2,G',C',jO),⟨by omega, ?_,Kj,h6',af4,h7',WR,QS,fun e he => ?_,fun e he => ?_,zp,bF,eo⟩,sOZ,ar,_,aa⟩
  ·rw [aK ks bh,<-jN]
   exact .snoc hR tL NJ
  ·rcases List.mem_append.1 he with he | he
   ·exact QY e he
   ·rw [mem_singleton.1 he]
    exact ⟨⟨fun hu=>(by rw [show o'.slot.used=o.used from g5,Vw.2.2] at hu;cases hu),by rw [show o'.slot.size=o.size from g6];exact Vw.2.1,g4.1,g4.2⟩,sOZ,g3⟩
  ·rcases List.mem_append.1 he with he | he
   ·exact zf e he
   ·rw [mem_singleton.1 he]
    have:=lO (o'.aA++o'.index)
    rw [length_append] at this
    simp only;omega
 ·obtain rfl:j=ks.length:=oZ
  rw [take_length] at hR hRk
  rw [drop_length,show mG all []=0 from rfl] at hP
  clear hVR
  obtain ⟨SL,VU⟩:∃SL,SL=slotsOf os:=⟨_,rfl⟩
  have abb:SL.length=112:=by rw [VU];exact ej os
  rw [<-VU]
  have Ib:=Ux [(g8,ax (SL.flatMap fv.lay) 146)] (some ⟨g8,0,none⟩) 112 112 SL abb (ay (by rw [gA (lay:=fv.lay) (s:=11) fv.ak,abb]) (Rz _) oZ 112) oZ (fun x hx=>by
   rw [VU] at hx
   rcases tK hx with rfl | ⟨k,o,ho,rfl⟩
   ·exact wD
   ·exact (QY _ (aI ho)).1)
  refine gc Ib ?_
  rintro _ _ ⟨g9,rfl,rfl⟩
  refine vY .i64 ?_;intro r15 Ym h15
  refine ga ?_;intro a15
  obtain ⟨TB,Ts⟩:∃TB,TB=fM SL:=⟨_,rfl⟩
  have WT:TB.length=8064:=by rw [Ts,lj,abb]
  rw [<-Ts]
  have adn:=Uq [(g9,ax (au TB) 5)] (some ⟨g9,0,none⟩) 8064 8064 TB WT (ay (by rw [aq,WT]) (aP _) oZ 8064) oZ oZ
  rw [show dh 8064 1024=8 from rfl] at adn
  refine gc adn ?_
  rintro _ _ ⟨dy,cS,vs,DS,VS,rfl,RI,hVS,rfl⟩
  have hvl:vs.length=8:=by
   have h1:=hVS.len
   rw [show (fm TB).length=8 by simp [fm,dN,WT,dh]] at h1;exact h1
  have aaJ:=RI.rd
  have Nu:(jB 0 vs).length=8:=by rw [lN];exact hvl
  have adp:(fm TB).length=8:=by simp [fm,dN,WT,dh]
  refine gl [0,1,5,6,7,15,80,81] (fun ((i,_):Nat×Chunk)=>[(82,.int .i64 i)]) (fun (_,Ym)=>[Ym]) (fun (i,Ym)=>i<=8/\Mp r15 .i64 ((jB 0 vs).take i) Ym) (fun (i,_)=>8 - i) (0,Ym) ⟨by omega,h15⟩ ?_
  clear h15
  rintro ⟨i,Ym⟩ ⟨hi,h15⟩
  refine gi ?_ ?_ <;> intro qI
  ·have bh:i<8:=oZ
   obtain ⟨gS,oS,rfl⟩:=aaJ.addr oZ
   obtain ⟨A9,B9,E9,v9, -,hv9,hB9, -⟩:=hVS.at (i:=i) oZ
   obtain ⟨NG,c9,rfl⟩:=hB9.slice
   refine gu ?_
   intro af5 ads
   have mh:((i:Nat):Int)∉((jB 0 vs).take i).map (·.1):=fun h=>by
    obtain ⟨e,he,e2⟩:=mem_map.1 h
    obtain ⟨j,hj,rfl⟩:=getElem_of_mem he
    rw [length_take] at hj
    rw [getElem_take,nQ] at e2
    simp only at e2;omega
   rw [Rx mh,show (jB 0 vs).take i++[((i:Int),Value.slice NG (fm TB)[i].length c9)]=(jB 0 vs).take (i+1) by
    rw [aK _ (show i<(jB 0 vs).length by omega),nQ]
    congr 3
    ·omega
    ·rw [getElem?_eq_getElem oZ] at hv9;exact (Option.some.inj hv9).symm] at ads
   refine gn ?_
   exact ⟨(i+1,af5),⟨by omega,ads⟩,sOZ,ar,_,aa⟩
  ·obtain rfl:i=8:=oZ
   rw [take_of_length_le oZ] at h15
   have hmg:fo mf (jB 0 vs) (jB 0 (fm TB)) VS:=Ry 0 hVS
   have CB:XU a15 (jl TB) ([(a15,yx false 0 ai (.slice none 0 0) (.slice none 0 0) r15 false)]++([]++([]++(Ym++VS)))):=⟨none,0,[],none,0,[],r15,jB 0 vs,Ym,VS,aC.nil _ _,aC.nil _ _,h15,hmg,rfl⟩
   have hmf:(jl TB).fresh.length=8:=by show (jB 0 (fm TB)).length=8;rw [lN];exact adp
   have MP:BG 8 (jl TB):=⟨fun e he=>by
    obtain ⟨j,hj,e1,e2⟩:=rB he
    have:=zF _ (mem_of_getElem? e2)
    omega,by rw [hmf];omega,by simp [jl],fun _ h=>(not_mem_nil h).elim,by simp [jl],by simp [jl,fK],by simp only [jl];exact dK⟩
   have Dc:=Sz T fr p qs t pool tp pr n ls no V hV ok dq hall s al ra rd ae note g (ae+1) eV P1 0 a15 _ _ CB rfl 8 oZ (hP.le (by rw [hmf];decide)) MP.fk MP.fl MP.pl MP.po G C Al hG hC hA
   refine gc Dc ?_
   rintro _ _ (⟨⟨vF,rfl⟩,hf⟩ | ⟨P2,a2,mo,A2,hRm,Kj,⟨jM,cP,DP,eb,cI,DX,r,LF,CF,VF,VJ,Br,hM,hF,rfl⟩,rfl,G2,C2,Al2,hG2,yq,l4,rfl⟩)
   ·obtain ⟨lF,CF,f1,f2,f3,rfl⟩:=hf.back (hR.CE hz.2 eV adk)
    refine gz ?_
    exact fin (.inl ⟨rfl,.inl ⟨lF,CF,f1,f2,f3,rfl⟩⟩) aa
   obtain ⟨g1,g2,g3,g4,g5,g6,g7⟩:=hRm.RA hz.2 eV oZ MP
   have hpp:=uK a2 mo jM cP DP eb cI DX r VJ Br oZ oZ
   refine gs ?_
   refine gc hpp ?_
   rintro _ _ ⟨j7,cq,Dq,rfl,hDq,rfl⟩
   refine gu ?_
   intro C7' h7'
   have ju:=fun C' bF=>qX (p:=p) (qs:=qs) (t:=t) (hV:=hV) (ok:=ok) (R:=P2.R) (C:=C') (hC:=bF) (ho:=Kj.lv) (hall:=hall)
   rw [uP,Kj.off] at ju
   refine gc (ju C2 yq) ?_
   rintro _ _ ⟨C3,rfl,kP,rfl⟩
   have sM:=Kj.ws
   have ahh:=Rk.eS P2.R (de ls)
   have ahi:=J4 (ls:=ls) ok.hw.2
   have Ck:=SA T fr p qs t pool tp pr n ls no V hV ok hall (P2.R.run (de ls)) C3 kP (Kj.lv.run _) s (ptr al) ra rd ae note mo.root g4.1 g4.2 ba tB Fu yD g7 oZ
   have ED:=hR.go.trans hRm.go
   refine gc Ck ?_
   rintro _ _ (⟨rfl,hoM,C4,hC4,rfl⟩ | ⟨rfl,hoM,C4,hC4,rfl⟩)
   ·obtain ⟨fs,xV,ya,tW⟩:=WN (g:=ae+1) (nd:=ds++[(0,bL (mo.aA++mo.index))]) (Tl.go ED.ge) (ED.ok Tw)
    refine gz ?_
    exact fin (.inl ⟨rfl,.inr ⟨ks,os,_,P2,mo,fs,C4,⟨P1,ds,by rw [mA];exact HP,hR,by rw [<-VU,<-Ts];exact hRm,rfl,xV,ya,tW⟩,Kj.off,⟨hoM,by
     have h1:=Rk.eS (P2.R.run (de ls)) (eA n ls ⟨pool,ae+1,ba,mo.root⟩)
     have h2:=Kk (n:=n) (u:=⟨pool,ae+1,ba,mo.root⟩) ok.hw.2
     omega⟩,hC4,rfl⟩⟩) aa
   have adt:(0:Int)∉ds.map (·.1):=by
    rw [hRk.2]
    intro h
    obtain ⟨-, -,h1, -⟩:=hki _ h
    omega
   have WR:fo QI (iw LP 0 (.slice j7 (bL (mo.aA++mo.index)).length cq)) (ds++[(0,bL (mo.aA++mo.index))]) (VP++Dq):=by
    rcases hVP.look 0 with ⟨-, -,h3⟩ | ⟨v,x,W1,E1,W2, -,h2, -⟩
    ·rw [<-nP adt]
     exact h3 _ _ _ hDq
    ·rw [kD adt] at h2;cases h2
   have htu:=aaG t pool tp pr n ls no V hV ok dq s al ra rd (ae+1) ba (aL pr ls.length 1024) rfl P2.x (ED.ok Tw) Al2 l4 oZ r6 r7 _ _ C7' (VP++Dq) h7' WR (fun e he=>by
    rcases List.mem_append.1 he with he | he
    ·exact zf e he
    ·rw [mem_singleton.1 he]
     have:=lO (mo.aA++mo.index)
     rw [length_append] at this
     simp only;omega) Ld od CD VD hD hDV ny (Tl.go ED.ge)
   refine gc htu ?_
   rintro _ _ ⟨rfl,fs,Al3,xV,ya,tW,wv,rfl⟩
   refine gs ?_
   refine gz ?_
   exact fin (.inr ⟨rfl,ks,os,_,P2,mo,fs,hoM,⟨P1,ds,by rw [mA];exact HP,hR,by rw [<-VU,<-Ts];exact hRm,rfl,xV,ya,tW⟩,r6,r7,LO,_,C6,VO,C7',_,C4,Al3,h6,hVO,h7',WR,Kj,hC4,wv,rfl⟩) aa
end
theorem M5 (s ba t:Nat)(vA:Value)(ra rd ae note:Nat)(H1 H2 H3 H4 H5 H6 H7 H8:Chunk)(B:List Chunk->Prop)(hB:∀Bs,B Bs->∃b c,Bs=[[(s,bU t vA ra rd ae note)],b,c])(Q:List Chunk->Prop)(hQ:∀Bs,Q Bs->∃a b c d e f g h i,Bs=[a,b,c,d,e,f,g,h,i])
  (h:Ct 23 [ptr s,.int .u64 ba] [[(s,bU t vA ra rd ae note)],H1,H2,H3,H4,H5,H6,H7,H8] fun u Bs=>(u = .int .i64 5/\B Bs)\/(u = .int .i64 0/\Q Bs)) :
  Ct 8 [ptr s,.int .u64 ba] [[(s,bU t vA ra rd ae note)],H1,H2,H3,H4,H5,H6,H7,H8] fun u Bs=>(u = .int .i64 5/\∃a b c,B [[(s,bU t vA ra rd ae note)],b,c]/\Bs=[a,b,c])\/(u = .int .i64 0/\Q Bs):=by
 refine st func8 fun w0 => ?_
 refine gc h ?_
 rintro _ Bs (⟨rfl,h5⟩ | ⟨rfl,h0⟩)
 ·obtain ⟨b,c,rfl⟩:=hB Bs h5
  refine gz ?_
  exact fin (.inl ⟨rfl,_,b,c,h5,rfl⟩) aa
 ·obtain ⟨a,b,c,d,e,f,g,h,i,rfl⟩:=hQ Bs h0
  refine gz ?_
  exact fin (.inr ⟨rfl,h0⟩) aa
end Go.Proofs.YtpabnmeponmonaaGreatDoor
namespace Go.Sl
def PS.at (P:PS)(R:Rk):PS:={ P with R:=R }
def Sh (P P':PS)(X:PS->PS->Prop):Prop:=∃l,P'.R=P.R.run l/\∀R0,X (P.at R0) (P'.at (R0.run l))
theorem Sh.nil {P:PS}{X:PS->PS->Prop}(h:∀A,X A A):Sh P P X:=⟨[],rfl,fun _=>h _⟩
theorem Sh.seq {P Q S:PS}{X Y Z:PS->PS->Prop}(h:Sh P Q X)(k:Sh Q S Y)(c:∀A B C,B.x=Q.x->C.x=S.x->A.x=P.x->X A B->Y B C->Z A C):Sh P S Z:=by
 obtain ⟨l,h1,h2⟩:=h
 obtain ⟨m,k1,k2⟩:=k
 exact ⟨l++m,by rw [k1,h1,Rk.dD],fun R0=>by rw [Rk.dD];exact c (P.at R0) (Q.at (R0.run l)) (S.at ((R0.run l).run m)) rfl rfl rfl (h2 R0) (k2 _)⟩
section
variable {pr:Bool}{ls:List (Option Lv)}{n gt:Nat}{P P':PS}
theorem j4.sh {b:List UInt8}{pt:Pt}(h:j4 pr ls n gt P b P' pt):Sh P P' fun A B=>j4 pr ls n gt A b B pt:=by
 rcases h with ⟨h1,rfl,h2⟩ | ⟨h1,k,h2,h3,h4,rfl⟩
 ·exact .nil fun A=>.inl ⟨h1,rfl,h2⟩
 ·exact ⟨_,rfl,fun R0=>.inr ⟨h1,k,h2,h3,h4,rfl⟩⟩
theorem gQ.sh {bs:List (List UInt8)}{ps:List Pt}(h:gQ pr ls n gt P bs P' ps):Sh P P' fun A B=>gQ pr ls n gt A bs B ps:=by
 induction h with
 | nil=>exact .nil fun A=>.nil
 | snoc _ h ih=>exact ih.seq h.sh fun A B C _ _ _ h1 h2=>.snoc h1 h2
theorem kC.sh {l idx:List Pt}{root:Pt}(h:kC pr ls n gt P P' l idx root):Sh P P' fun A B=>kC pr ls n gt A B l idx root:=by
 rcases h with ⟨h1,rfl,h2,h3⟩ | ⟨h1,level,P1,h2,h3,h4⟩
 ·exact .nil fun A=>.inl ⟨h1,rfl,h2,h3⟩
 ·exact h2.sh.seq h3.sh fun A B C _ _ _ k1 k2=>.inr ⟨h1,level,B,k1,k2,h4⟩
theorem Fq.sh {fresh:List (Int×List UInt8)}{l0 l1:List Pt}{ks:List Int}(h:Fq pr ls n gt fresh P l0 ks P' l1):Sh P P' fun A B=>Fq pr ls n gt fresh A l0 ks B l1:=by
 induction h with
 | nil=>exact .nil fun A=>.nil
 | snoc _ hl h ih=>exact ih.seq h.sh fun A B C _ _ _ h1 h2=>.snoc h1 hl h2
theorem nM.sh {o o':Ob}(h:nM pr ls n gt P o P' o'):Sh P P' fun A B=>nM pr ls n gt A o B o':=by
 obtain ⟨ks,P1,l1,idx,root,h1,h2,h3,h4,h5⟩:=h
 exact h3.sh.seq h4.sh fun A B C _ _ _ k1 k2=>⟨ks,B,l1,idx,root,h1,h2,k1,k2,h5⟩
theorem nO.sh {o o':Ob}(h:nO pr ls n gt P o P' o'):Sh P P' fun A B=>nO pr ls n gt A o B o':=by
 rcases h with ⟨h1,rfl,h2⟩ | ⟨h1,h2⟩
 ·exact .nil fun A=>.inl ⟨h1,rfl,h2⟩
 ·obtain ⟨l,k1,k2⟩:=h2.sh
  exact ⟨l,k1,fun R0=>.inr ⟨h1,k2 R0⟩⟩
theorem iu.sh {all os:List (Int×Ob)}{ks:List Int}{ds:List (Int×List Pt)}(h:iu pr ls n gt all P ks P' os ds):Sh P P' fun A B=>iu pr ls n gt all A ks B os ds:=by
 induction h with
 | nil=>exact .nil fun A=>.nil
 | snoc _ hl h ih=>exact ih.seq h.sh fun A B C _ _ _ h1 h2=>.snoc h1 hl h2
theorem J5.sh {ae:Nat}{all os:List (Int×Ob)}{od ds:List (Int×List Pt)}{ks:List Int}{mo:Ob}{fs:List Pt}(h:J5 pr ls n ae all od P ks os ds P' mo fs):Sh P P' fun A B=>J5 pr ls n ae all od A ks os ds B mo fs:=by
 obtain ⟨P1,VQ,h1,h2,h3,h4,h5,h6,h7⟩:=h
 exact h2.sh.seq h3.sh fun A B C _ hc _ k1 k2=>⟨B,VQ,h1,k1,k2,h4,h5,h6,by rw [hc];exact h7⟩
end
end Go.Sl
namespace Go.Proofs.YtpabnmeponmonaaGreatDoor
section
variable {T:TypeId}{fr:Nat×Nat}{p:Nat}{qs:List Nat}{tp:Tp}{pr:Bool}{n q:Nat}{ls:List (Option Lv)}{s:Nat}{R:Rk}{no ae note:Nat}{all:List (Int×Ob)}{od:List (Int×List Pt)}{rm:Rm}{S:Chunk}{pm:List dg}{l:List aw}
theorem IC (h:xJ T fr p qs tp pr n ls s R no ae note all od rm S)(f:StF qs tp pr n q ls R pm all l)(ha:NS (bD pr ls.length n) (aL pr ls.length 1024) q ae rm pm)(nC:dv pr ls.length n R pm)(NP:∀x,x∈aY od↔∃e∈pm,e.x=x)(Hy:∀e∈od,e.2.length<=200)(mU:pm.length<=q)(hu:aT l+10<=q)(ht:ae+1<=281474976710656)(hw:R.ws.length<=800000000000)(nt:Nat)(rV:nt<18446744073709551616) :
  Ct 8 [ptr s,.int .u64 nt] [S] fun v Bs=>v = .int .i64 0/\∃S',(∃ks os ds P2 mo fs,J5 pr ls n ae all od ⟨R,rm,[]⟩ ks os ds P2 mo fs/\xJ T fr p qs tp pr n ls s (((P2.R.run (de ls)).run (eA n ls ⟨11,ae+1,nt,mo.root⟩)).run (de ls)) no (ae+1) nt os ds ((bA (ae+1) P2.x (aL pr ls.length 1024) fs).sync ((ae+1:Nat):Int)) S')/\Bs=[S']:=by
 obtain ⟨t,al,ra,rd,C,V,LA,CA,VA,Ld,CD,VD,Al,hV,hC,hA,hG,hD,hP,hL,rfl⟩:=h
 have hz:=ir pr f.ok.hw ⟨f.ok.hn.1,f.n2⟩
 have h4q:4*q<=bD pr ls.length n / aL pr ls.length 1024:=by have:=f.q;omega
 have QB:bD pr ls.length n / aL pr ls.length 1024<=10240:=Nat.le_trans (Nat.div_le_self _ _) hz.2
 have hn:=zL f.rel
 rw [hG.keys] at hn
 have ny:=ha.dl
 have hps:uT qs pr ls n ⟨R,rm,[]⟩ (10+mG all (LA.map (·.1))):=⟨f.on.2,f.ho,sOZ,sOZ,by simp only [length_nil];omega⟩
 have Tl:rA (aL pr ls.length 1024) rm od:=by
  have mI:=Iq (od:=od) nC fun x hx=>(NP x).1 hx
  have he:∀x∈aY od,aM (aL pr ls.length 1024) x∈rm.D/\aM (aL pr ls.length 1024) x∉rm.W:=fun x hx=>by
   obtain ⟨e,h1,rfl⟩:=(NP x).1 hx
   exact ha.hd e h1
  exact ⟨mI.top,mI.at_,fun x hx=>(he x hx).1,fun x hx=>(he x hx).2,mI.inj⟩
 have c:=(FX T fr p qs t 11 tp pr n ls no V hV f.ok f.n2 f.hall s al ra rd ae note ⟨R,rm,[]⟩ rfl LA all CA VA hA hG (fun e he=>⟨(f.rel.each e he).1,(f.rel.each e he).2.1⟩) (fun e he=>by
  obtain ⟨-, -,h3,h4,h5⟩:=f.rel.each e he
  rw [R6]
  exact ⟨h3.V8 nC,h4,h5⟩) Ld od CD VD hD hP Hy (aL pr ls.length 1024) rfl Tl ha.ok nt dZ rV ht hps C Al hC hL).to (P':=fun u Bs=>u = .int .i64 0/\_) fun u Bs h=>(h.resolve_left fun ⟨_,hb⟩=>by
  rcases hb with ⟨l,C', -,⟨h1, -⟩, -⟩ | ⟨ks,os,ds,P2,mo,fs,C',hc,h0,⟨h1, -⟩, -⟩
  ·rw [(f.on.run l).2] at h1;cases h1
  ·obtain ⟨l,hl, -⟩:=hc.sh
   have hl:P2.R=R.run l:=hl
   rw [hl,(((f.on.run l).run _).run _).2] at h1;cases h1)
 refine (MR s nt t (ptr al) ra rd ae note _ _ _ _ _ _ _ _ _ (fun Bs hB => ?_) c).on (Rs:=[]) bW ?_
 ·obtain ⟨ks,os,ds,P2,mo,fs, -, -,r6,r7,LO,LP,C6,VO,C7,VP,C',jO, -, -, -, -, -, -, -,rfl⟩:=hB
  exact ⟨_,_,_,_,_,_,_,_,_,rfl⟩
 ·rintro u Bs ⟨rfl,ks,os,ds,P2,mo,fs, -,h1,r6,r7,LO,LP,C6,VO,C7,VP,C',jO,k1,k2,k3,k4,k5,k6,k7,rfl⟩
  exact ⟨_,[],⟨rfl,_,⟨ks,os,ds,P2,mo,fs,h1,t,al,r6,r7,C',V,LO,C6,VO,LP,C7,VP,jO,hV,k6,k1,k2,k3,k4,k7,rfl⟩,rfl⟩,bW⟩
end
end Go.Proofs.YtpabnmeponmonaaGreatDoor
namespace Go.Sl
structure QtX (pool:Nat)(tp:Tp)(n w:Nat)(rx:Nat->Nat->Nat->Option Ub)(R:Rk):Prop where
 on:R.on
 sz:∀i,i<w->R.live i/\R.size i=n
 lb:∀k,k<w->R.now k (ez n 0)=whole (dW ⟨pool,[tp],0,k⟩)
 rg:∀i,i<w->iD R n i (rx i)
 q:∀i,i<w->∀a,a<18\/274<=a->R.pl i a=R.now i a
section
variable {pool:Nat}{tp:Tp}{n:Nat}{rx:Nat->Nat->Nat->Option Ub}{R:Rk}
theorem QtX.log {w:Nat}{R2:Rk}(hn:324<=n)(h:QtX pool tp n w rx R)(hg:J0 R R2):QtX pool tp n w rx R2:=by
 refine ⟨hg.on,fun i hi=>⟨(hg.live i).2 (h.sz i hi).1,by rw [hg.size];exact (h.sz i hi).2⟩,fun k hk => ?_,fun i hi=>(h.rg i hi).congr hn fun a ha=>hg.now i a oZ,fun i hi a ha=>by rw [hg.pl,hg.now i a ha];exact h.q i hi a ha⟩
 rw [hg.now k _ (.inl (by simp only [ez];omega))]
 exact h.lb k hk
theorem QtX.mark {ls:List (Option Lv)}(hI:pB ls){ring:Nat->Option Ub}(hn:324<=n)(h:QtX pool tp n ls.length rx R){u:Ub}(Tw:∀i k j,j≠u.ae % 8->rx i k j=ring j)(hu:wq u=0/\u.Ok) :
  Qt pool tp n ls.length (upd ring (u.ae % 8) (some u)) ((R.run (eA n ls u)).run (de ls))/\(∀i a,i<ls.length->((R.run (eA n ls u)).run (de ls)).pl i a=((R.run (eA n ls u)).run (de ls)).now i a) /\
   ∀i a,(18<=a/\a<n - 18)->((R.run (eA n ls u)).run (de ls)).now i a=R.now i a:=by
 have xS:(R.run (eA n ls u)).on:=h.on.run _
 have Sg:u.ae % 8<8:=Nat.mod_lt _ oZ
 have Iw:∀i a,(∀k,k<4->a≠ez n k+1+u.ae % 8)->((R.run (eA n ls u)).run (de ls)).now i a=R.now i a:=fun i a ha=>by
  rw [fc hI,bI (fun b hb=>by
   obtain ⟨-, -,k,hk,e⟩:=(gN hI).1 hb
   exact ha k hk e)]
 have hall:∀i a,i<ls.length->((R.run (eA n ls u)).run (de ls)).pl i a=((R.run (eA n ls u)).run (de ls)).now i a:=fun i a hi=>by
  rw [p3 hI xS hi,fc hI]
 have bu:∀i,((R.run (eA n ls u)).run (de ls)).size i=R.size i:=fun i=>by rw [Rk.bH,Rk.bH]
 refine ⟨⟨xS.run _,fun i hi=>⟨?_,by rw [bu];exact (h.sz i hi).2⟩,fun k hk => ?_,fun i hi k j hk hj => ?_,fun i hi a _=>hall i a hi⟩,hall,fun i a ha=>Iw i a fun k hk => ?_⟩
 ·rw [Rk.di,Rk.di]
  exact (h.sz i hi).1
 ·rw [Iw k (ez n 0) (fun k' nD=>fun c=>(jf nD Sg hn).2.2.2 (by rw [<-c];rfl))]
  exact h.lb k hk
 ·by_cases P8:j=u.ae % 8
  ·subst P8
   have e:upd ring (u.ae % 8) (some u) (u.ae % 8)=some u:=if_pos rfl
   simp only [e]
   refine ⟨?_,hu⟩
   rw [fc hI]
   refine fP h.on (by rw [(h.sz i hi).2];exact (jf hk hj hn).1) (fun b' hb=>((gN hI).1 hb).2.1) ((gN hI).2 ⟨hi,rfl,k,hk,rfl⟩)
  ·have e:upd ring (u.ae % 8) (some u) j=ring j:=if_neg P8
   simp only [e]
   have:=h.rg i hi k j hk hj
   rw [Tw i k j P8] at this
   rw [Iw i _ (fun k' nD=>Iu hk nD hj Sg hn P8)]
   exact this
 ·have:=jf hk Sg hn
  omega
end
section
variable {ls:List (Option Lv)}(hI:pB ls)
include hI
theorem ID {pool T no:Nat}{tp:Tp}{n:Nat}{rx:Nat->Nat->Nat->Option Ub}{ring:Nat->Option Ub}{R:Rk}{u:Ub}{G:List UInt8}(hw:1<=ls.length/\ls.length<=5)(hn:324<=n)(hq:QtX pool tp n ls.length rx R)(hr:p5 pool T u ring)(Tw:∀i k j,j≠u.ae % 8->rx i k j=ring j)(hu:wq u=0/\u.Ok)(hG:fB R ls.length no G)(gf:1<=no/\no+22528<=281474976710656) :
  Qt pool tp n ls.length ring (NO n ls no u R)/\fB (NO n ls no u R) ls.length (dG ls 22528 R no 0 (bp R ls)).2 G/\(∀i a,i<ls.length->(NO n ls no u R).pl i a=(NO n ls no u R).now i a)/\(∀i a,274<=a/\a<n - 18->(NO n ls no u R).now i a=R.now i a) /\
   no<=(dG ls 22528 R no 0 (bp R ls)).2/\(dG ls 22528 R no 0 (bp R ls)).2<=no+22528/\(dG ls 22528 R no 0 (bp R ls)).1.ws.length<=R.ws.length+5*22528/\(dG ls 22528 R no 0 (bp R ls)).1.on/\∀i,(dG ls 22528 R no 0 (bp R ls)).1.size i=R.size i/\((dG ls 22528 R no 0 (bp R ls)).1.live i↔R.live i):=by
 rw [hG.all hI hw.1 hq.on.2]
 obtain ⟨h1,h2,h3,h4,h5⟩:=VC hI hw 22528 R no G 0 G hq.on (fun i hi=>by rw [(hq.sz i hi).2];exact hn) hG (by rw [hG.len];omega) (by rw [hG.len];omega) gf.1 gf.2
 have e:CC G 0 G=G:=by simp [CC]
 rw [e] at h2
 unfold NO
 rw [hG.all hI hw.1 hq.on.2]
 generalize dG ls 22528 R no 0 G=X at *
 obtain ⟨m1,m2,m3⟩:=(hq.log hn h1).mark hI hn Tw hu
 rw [hr.again] at m1
 exact ⟨m1,h2.congr fun i a _ ha hb=>m3 i a oZ,m2,fun i a ha=>by rw [m3 i a oZ,h1.now i a oZ],h3,h4,h5,h1.on,fun i=>⟨h1.size i,h1.live i⟩⟩
end
structure FY (tp:Tp)(pr:Bool)(n w q:Nat)(R:Rk)(no:Nat)(u:Ub)(l:List aw)(G:List UInt8)(pm:List dg)(cs:List (Int×Ob))(mo:Ob)(rx:Nat->Nat->Nat->Option Ub)(ring:Nat->Option Ub):Prop where
 qt:QtX 11 tp n w rx R
 rg:p5 11 u.ae u ring
 rr:∀i k j,j≠u.ae % 8->rx i k j=ring j
 bs:∀x,mD rx 11 w x->x=u
 fw:∃U:List Ub,U.length<=19/\∀i k j v,rx i k j=some v->v∈U
 ow:∀i,i<w->∃v k j,k<4/\j<8/\rx i k j=some v/\v.pool=11
 ub:wq u=0/\u.Ok
 rt:u.root=mo.root
 S6:uL pm cs mo l
 lv:∀x,(x∈eg mo\/∃k o,aJ cs k=some o/\x∈eg o)↔∃e∈pm,e.x=x
 po:dv pr w n R pm
 jd:pm.length<=q
 ud:aT l+10<=q
 lg:fB R w no G
theorem Tt.x {tp:Tp}{pr:Bool}{n w q:Nat}{R:Rk}{no:Nat}{u:Ub}{l:List aw}{G:List UInt8}{pm:List dg}{cs:List (Int×Ob)}{mo:Ob}{ring:Nat->Option Ub}(h:Tt tp pr n w q R no u l G pm cs mo ring)(hw:1<=w):FY tp pr n w q R no u l G pm cs mo (fun _ _ j=>ring j) ring :=
 ⟨⟨h.qt.on,h.qt.sz,h.qt.lb,h.qt.rg,h.qt.q⟩,h.rg,fun _ _ _ _=>rfl,fun _ hx=>h.rg.afQ hw hx,⟨_,h.rg.jd.1,fun _ _ j v hv=>h.rg.jd.2 j v hv⟩,fun _ _=>⟨u,0,u.ae % 8,by omega,Nat.mod_lt _ oZ,h.rg.top,h.rg.pl⟩,h.ub,h.rt,h.S6,h.lv,h.po,h.jd,h.ud,h.lg⟩
section
variable {tp:Tp}{pr:Bool}{n q:Nat}{R:Rk}{no:Nat}{u:Ub}{l:List aw}{G:List UInt8}{pm:List dg}{cs:List (Int×Ob)}{mo:Ob}{rx:Nat->Nat->Nat->Option Ub}{ring:Nat->Option Ub}
theorem Tt.move {w:Nat}{R':Rk}(h:Tt tp pr n w q R no u l G pm cs mo ring)(hn:324<=n)(ho:R'.on)(hz:∀i,R'.size i=R.size i)(hv:∀i,R'.live i↔R.live i)(hq:∀i a,R'.pl i a=R'.now i a)(hs:∀i a,i<w->(a<274\/n - 18<=a)->R'.now i a=R.now i a)(nC:dv pr w n R' pm):Tt tp pr n w q R' no u l G pm cs mo ring :=
 { h with
  qt:=⟨ho,fun i hi=>⟨(hv i).2 (h.qt.sz i hi).1,by rw [hz];exact (h.qt.sz i hi).2⟩,fun k hk=>by rw [hs k _ hk (.inl (by simp only [ez];omega))];exact h.qt.lb k hk,fun i hi=>(h.qt.rg i hi).congr hn fun a ha=>hs i a hi oZ,fun i hi a _=>hq i a⟩
  po:=nC
  lg:=h.lg.congr fun i a hi h1 h2=>hs i a hi (.inl h2) }
variable {ls:List (Option Lv)}(hI:pB ls)(hn:324<=n/\n<=2048)(hw:1<=ls.length/\ls.length<=5)(hp:pr=true->3<=ls.length)
include hI hn hw hp
theorem FY.opens (h:FY tp pr n ls.length q R no u l G pm cs mo rx ring)(gf:1<=no/\no+22528<=281474976710656)(Gs:Nat)(h1:Gs=rX R ls 1 ls.length) :
  (1<=Gs/\Gs<=no)/\Opn pr n R ls pm cs mo/\(dG ls 22528 R Gs 0 (bp R ls)).1.on/\(∀i,(dG ls 22528 R Gs 0 (bp R ls)).1.size i=R.size i/\((dG ls 22528 R Gs 0 (bp R ls)).1.live i↔R.live i))/\(dG ls 22528 R Gs 0 (bp R ls)).1.ws.length<=R.ws.length+5*22528/\Gs<=(dG ls 22528 R Gs 0 (bp R ls)).2/\(dG ls 22528 R Gs 0 (bp R ls)).2<=Gs+22528 /\
  ∀ks:List Nat,ks.Nodup->(∀k,k∈ks↔∃x∈aY (BH (fE pm) (gR (fE pm) mo.root) (slotsOf cs)),aM (aL pr ls.length 1024) x=k) ->
   rJ tp pr n ls.length q (NO n ls Gs u R) (dG ls 22528 R Gs 0 (bp R ls)).2 u (yg (fE pm) 0 (slotsOf cs)) (BH (fE pm) (gR (fE pm) mo.root) (slotsOf cs)) ⟨ks,[]⟩ l l G G pm (yg (fE pm) 0 (slotsOf cs)) (gR (fE pm) mo.root) ring:=by
 obtain ⟨a1,a2,a3⟩:=Wl hI h.lg gf.1 hw.1
 rw [<-h1] at a1 a2 a3
 obtain ⟨b1,b2,b3,b4,b5,b6,b7,b8,b9⟩:=ID hI hw hn.1 h.qt h.rg h.rr h.ub a1 ⟨a2,by omega⟩
 have uq:=h.S6.back h.po
 have J6:(gR (fE pm) mo.root).root=mo.root:=(eX _ _).2.1
 have xg:∀x,x∈aY (BH (fE pm) (gR (fE pm) mo.root) (slotsOf cs))↔∃e∈pm,e.x=x:=fun x=>(h.S6.live h.po x).trans (h.lv x)
 refine ⟨⟨a2,a3⟩,h.S6.opn hI hn.1 hw hp (fun i hi=>(h.qt.sz i hi).2) h.po,b8,b9,b7,b5,b6,fun ks hk hm=>⟨⟨b1,h.rg,h.ub,h.rt.trans J6.symm,uq,fun x=>(Si x).symm.trans (xg x),h.po.congr hn.1 hw hp fun i hi a c1 c2=>b4 i a ⟨c1,c2⟩,h.jd,h.ud,b2⟩,uq.rel, ?_,xg, ?_,h.ud, ?_⟩⟩
 ·have hke:∀k∈ks,∃e∈pm,aM (aL pr ls.length 1024) e.x=k:=fun k hk=>by
   obtain ⟨x,hx,rfl⟩:=(hm k).1 hk
   obtain ⟨e,he,rfl⟩:=(xg x).1 hx
   exact ⟨e,he,rfl⟩
  refine ⟨⟨fun k hk => ?_,nodup_nil,fun k hk=>by cases hk⟩,hk,fun e he=>⟨(hm _).2 ⟨e.x,(xg _).2 ⟨e,he,rfl⟩,rfl⟩,fun h=>by cases h⟩,fun k hk=>.inr (hke k hk),fun g hg=>(by cases hg),nodup_nil⟩
  obtain ⟨e,he,rfl⟩:=hke k hk
  have:=(h.po.FB e he).fit
  exact_mod_cast this
 ·intro e he
  unfold BH at he
  rcases List.mem_cons.1 he with rfl | he
  ·have h1:(eg (gR (fE pm) mo.root)).length<=10:=rH uq.mi uq.mc
   simp only;omega
  ·obtain ⟨f,hf,rfl⟩:=mem_map.1 he
   obtain ⟨d, -,c1,c2,c3⟩:=uq.has (fu nR hf)
   have h1:=rH c1 c3
   have h2:=Io c2.sz
   have h3:=l7 c2.sz
   have h4:=R6 f.2.size
   rw [h4] at h2
   simp only;omega
 ·exact b2.congr fun i a hi _ _=>by rw [Bz,b3 i a hi]
end
theorem xO {R:Rk}{ls:List (Option Lv)}(hI:pB ls){l:List Ev}(hl:∀d,Ev.f d∉l)(hR:((R.run (de ls)).run l).Ok)(hd:R.ds.length=ls.length)(ho:R.off=false):(R.run (de ls)).ws=[]:=by
 refine eq_nil_iff_forall_not_mem.2 fun w hw => ?_
 have h3:=(hR.ws w (Kg hl hw)).1
 rw [Rk.bH,Rk.bH] at h3
 rw [BA hI] at hw
 obtain ⟨h1,h2⟩:=It _ R ho w hw
 refine h2 (mem_range.2 ?_)
 unfold Rk.size at h3
 rcases Nat.lt_or_ge w.d ls.length with c | c
 ·omega
 ·rw [getElem?_eq_none oZ] at h3;simp at h3
theorem WU {pr:Bool}{n ae:Nat}{ls:List (Option Lv)}{P P2:PS}{pm:List dg}{all os:List (Int×Ob)}{l:List aw}{od ds:List (Int×List Pt)}{fs:List Pt}{mo:Ob}{ks:List Int}(hI:pB ls)(hn:324<=n/\n<=2048)(hw:1<=ls.length/\ls.length<=5)(hp:pr=true->3<=ls.length)(ht:1<=ae/\ae+1<=281474976710656)(h:J5 pr ls n ae all od P ks os ds P2 mo fs)(hs:NQ pr n ls P pm)(ha:bM pm all l):dv pr ls.length n P2.R pm:=by
 obtain ⟨P1,VQ,hk,h1,h2,rfl,xV,ya,tW⟩:=h
 have eV:1<=ae+1/\ae+1<=281474976710656:=oZ
 have AX:ks.Nodup:=hk.nodup_iff.2 ha.kn
 obtain ⟨n1,g1,g2,g3,rfl⟩:=iu.grow hI hn hw hp eV h1 hs (fun k o ho=>by
  rcases ha.keys k with ⟨c, -⟩ | ⟨o',d,c1, -,c3, -⟩
  ·rw [ho] at c;cases c
  ·rw [ho] at c1;cases c1;exact c3) AX
 have Ts:(fM (slotsOf os)).length=8064:=by rw [lj,ej]
 obtain ⟨n2,k1,k2,k3⟩:=nM.grow hI hn hw hp eV h2 g1.tF (xE (pm++n1) Ts)
 have nC:=(g1.trans k1).tF.po
 exact ⟨fun e he=>nC.FB e (mem_append_left _ he),(pairwise_append.1 nC.inj).1⟩
structure Still (w:Nat)(R:Rk):Prop where
 ws:R.ws=[]
 q:∀i a,i<w->R.pl i a=R.now i a
section
variable {tp:Tp}{pr:Bool}{n q:Nat}{S R:Rk}{no:Nat}{u:Ub}{all:List (Int×Ob)}{od:List (Int×List Pt)}{x:Rm}{lM lD:List aw}{GM SD:List UInt8}{pm:List dg}{cs:List (Int×Ob)}{mo:Ob}{ring:Nat->Option Ub}{ls:List (Option Lv)}
 (hI:pB ls) (hn:324<=n/\n<=2048) (hw:1<=ls.length/\ls.length<=5) (hp:pr=true->3<=ls.length)
 (h:rJ tp pr n ls.length q S no u all od x lM lD GM SD pm cs mo ring) (hS:Still ls.length S) (hd:R.ds=S.ds) (sM:R.ws=S.ws) (ho:R.off=false)
include hI hn hw hp h hS hd sM ho
theorem rJ.af6 {l:List Ev}(hl:fY pr ls n x.D l)(hR:(R.run l).Ok)(st:List Bool):Tt tp pr n ls.length q ((R.run l).up st) no u lD GM pm cs mo ring:=by
 have key:=fun i a hi=>Sy h.dk.qt.on hd sM ho hS.ws (l:=l) hl.afR st i a (hS.q i a hi)
 refine h.dk.move hn.1 (Sx st) (fun i=>by rw [BZ st i hR,Rk.bH,uN hd]) (fun i=>by rw [BY,Rk.di,uO hd]) (fun i a=>Kh st i a) (fun i a hi ha => ?_) (h.dk.po.cr hI hn hw hp (fun e he=>(h.al.hd e he).1) hl fun i a hi => ?_)
 ·rcases key i a hi with c | ⟨b,hb, -⟩
  ·exact c
  ·have:=hl.dat hI hn hw hp hb
   omega
 ·rcases key i a hi with c | ⟨b,hb, -⟩
  ·exact .inl c
  ·exact .inr ⟨b,hb⟩
theorem rJ.adu (ht:u.ae+1<=281474976710656){ks:List Int}{os:List (Int×Ob)}{ds:List (Int×List Pt)}{P2:PS}{kQ:Ob}{fs:List Pt}{note:Nat}(rV:note<18446744073709551616)(hc:J5 pr ls n u.ae all od ⟨R,x,[]⟩ ks os ds P2 kQ fs)(h2:P2.R.off=false)
    (Yn:((P2.R.run (de ls)).run (eA n ls ⟨11,u.ae+1,note,kQ.root⟩)).Ok) (ny:S.ds.length=ls.length) (st:List Bool) :
    Tt tp pr n ls.length q (((P2.R.run (de ls)).run (eA n ls ⟨11,u.ae+1,note,kQ.root⟩)).up st) no u lD GM pm cs mo ring \/
    ∃fD rx gY,FY tp pr n ls.length q (((P2.R.run (de ls)).run (eA n ls ⟨11,u.ae+1,note,kQ.root⟩)).up st) no ⟨11,u.ae+1,note,kQ.root⟩ (lM.map (jC (u.ae+1))) GM fD os kQ rx gY:=by
  have _:=hS
  have _:=ho
  obtain ⟨l,hl,YS⟩:=hc.sh
  have Yo:=YS S
  obtain ⟨T,hT⟩:∃T,T=S.run l:=⟨_,rfl⟩
  have jI:P2.R=R.run l:=hl
  obtain ⟨t1,t2⟩:=xN h.dk.qt.on hd sM (l:=l) (by rw [<-jI];exact h2)
  rw [<-jI,<-hT] at t1 t2
  have Yo:J5 pr ls n u.ae all od ⟨S,x,[]⟩ ks os ds (P2.at T) kQ fs:=by rw [hT];exact Yo
  obtain ⟨fD,h1,h2a,h3,h4,h5,h6,h7,h8,h9,Yg,h11⟩:=xF hI hn hw hp ⟨h.dk.rg.one,ht⟩ Yo h.tF h.rel h.al h.oe h.dk.jd h.um
  have af7:dv pr ls.length n T pm:=WU hI hn hw hp ⟨h.dk.rg.one,ht⟩ Yo h.tF h.rel
  have hu:wq (⟨11,u.ae+1,note,kQ.root⟩:Ub)=0/\Ub.Ok ⟨11,u.ae+1,note,kQ.root⟩:=⟨if_pos ⟨sOZ,ht,h9,h11⟩,⟨sOZ,sOZ,rV,Yg⟩⟩
  obtain ⟨v,hv⟩:∃v:Ub,v=⟨11,u.ae+1,note,kQ.root⟩:=⟨_,rfl⟩
  rw [<-hv] at hu Yn ⊢
  have hvt:v.ae=u.ae+1:=by rw [hv]
  have hvp:v.pool=11:=by rw [hv]
  have hvr:v.root=kQ.root:=by rw [hv]
  have SC:T.on:=h6.on
  have hoF:(P2.R.run (de ls)).off=false:=by rw [uP];exact h2
  obtain ⟨f1,f2⟩:=xN SC t1 t2 (l:=de ls) hoF
  obtain ⟨F,hF⟩:∃F,F=T.run (de ls):=⟨_,rfl⟩
  rw [<-hF] at f1 f2
  have af8:F.on:=by rw [hF];exact SC.run _
  have af9:F.ws=[]:=by rw [<-f2];exact xO hI (fun d=>Fl) Yn (by rw [jI,Rk.AM,hd];exact ny) h2
  have hFn:∀i a,F.now i a=T.now i a:=fun i a=>by rw [hF,fc hI]
  have hFp:∀i a,i<ls.length->F.pl i a=F.now i a:=fun i a hi=>by rw [hFn,hF,p3 hI SC hi]
  obtain ⟨W,hW⟩:∃W,W=((P2.R.run (de ls)).run (eA n ls v)).up st:=⟨_,rfl⟩
  have key:=fun i a hi=>Sy af8 f1 f2 hoF af9 (l:=eA n ls v) (fun d=>Fl) st i a (hFp i a hi)
  have hWz:∀i,W.size i=S.size i:=fun i=>by rw [hW,BZ st i Yn,Rk.bH,uN f1,hF,Rk.bH];exact h6.size i
  have hWl:∀i,W.live i↔S.live i:=fun i=>by rw [hW,BY,Rk.di,uO f1,hF,Rk.di];exact h6.live i
  have hWq:∀i a,W.pl i a=W.now i a:=fun i a=>by rw [hW];exact Kh st i a
  have hWo:W.on:=by rw [hW];exact Sx st
  rw [<-hW] at key ⊢
  have hWd:∀i a,i<ls.length->18<=a->a<n - 18->W.now i a=T.now i a:=fun i a hi a1 a2=>by
    rcases key i a hi with c | ⟨b,hb, -⟩
    · rw [c,hFn]
    · obtain ⟨-, -,k,hk,e⟩:=(gN hI).1 hb
      have:=jf hk (Nat.mod_lt v.ae (by omega:0<8)) hn.1
      omega
  have hTs:∀i a,(a<274\/n - 18<=a)->T.now i a=S.now i a:=fun i a ha=>h6.now i a ha
  by_cases mh:∀i a,i<ls.length->W.now i a=F.now i a
  · left
    exact h.dk.move hn.1 hWo hWz hWl hWq (fun i a hi ha=>by rw [mh i a hi,hFn,hTs i a ha]) (af7.congr hn.1 hw hp fun i hi a _ _=>by rw [mh i a hi,hFn])
  · right
    have mh:∃i0 k0,i0<ls.length/\k0<4/\W.now i0 (ez n k0+1+v.ae % 8)=whole (jJ v):=by
      refine Classical.byContradiction fun c=>mh fun i a hi=>(key i a hi).resolve_right ?_
      rintro ⟨b,hb,e⟩
      obtain ⟨-,rfl,k,hk,rfl⟩:=(gN hI).1 hb
      exact c ⟨i,k,hi,hk,e⟩
    obtain ⟨i0,k0,hi0,xT,he0⟩:=mh
    have Sg:v.ae % 8<8:=Nat.mod_lt _ oZ
    have adw:=h.dk.rg.next hvp hvt
    have hall:=h.dk.rg.all
    have aap:=h.dk.rg.top
    have aga:u.ae % 8≠v.ae % 8:=by rw [hvt];omega
    obtain ⟨rx,Tw⟩:∃rx:Nat->Nat->Nat->Option Ub,rx=fun i k j=>if j=v.ae % 8 then (if W.now i (ez n k+1+j)=whole (jJ v) then some v else ring j) else ring j:=⟨_,rfl⟩
    have rx1:∀i k j,j≠v.ae % 8->rx i k j=ring j:=fun i k j hj=>by rw [Tw];exact if_neg hj
    have rx2:∀i k,W.now i (ez n k+1+v.ae % 8)=whole (jJ v)->rx i k (v.ae % 8)=some v:=fun i k e=>by rw [Tw];simp only [if_pos,e]
    have rx3:∀i k,W.now i (ez n k+1+v.ae % 8)≠whole (jJ v)->rx i k (v.ae % 8)=ring (v.ae % 8):=fun i k e=>by rw [Tw];simp only [if_true,if_neg e]
    have rx4:∀i k j y,rx i k j=some y->y=v\/ring j=some y:=fun i k j y e=>by
      by_cases c:j=v.ae % 8
      · subst c
        by_cases d:W.now i (ez n k+1+v.ae % 8)=whole (jJ v)
        · rw [rx2 i k d] at e;exact .inl (Option.some.inj e).symm
        · rw [rx3 i k d] at e;exact .inr e
      · rw [rx1 i k j c] at e;exact .inr e
    refine ⟨fD,rx,upd ring (v.ae % 8) (some v),⟨⟨hWo,fun i hi=>⟨(hWl i).2 (h.dk.qt.sz i hi).1,by rw [hWz];exact (h.dk.qt.sz i hi).2⟩,fun k hk => ?_,fun i hi k j hk hj => ?_,fun i hi a _=>hWq i a⟩,by rw [hvt] at adw ⊢;exact adw,fun i k j hj=>by rw [rx1 i k j hj];exact (if_neg hj).symm,fun y hy => ?_,⟨v :: (List.range 8).filterMap ring,by have:=h.dk.rg.jd.1;simp at this ⊢;have h2:=length_filterMap_le ring (List.range 8);simp at h2;omega,fun i k j y e => ?_⟩,fun i hi=>⟨u,0,u.ae % 8,by omega,Nat.mod_lt _ oZ,by rw [rx1 _ _ _ aga];exact aap,h.dk.rg.pl⟩,hu,hvr,h1,fun x=>(h8 x).symm.trans (h2a x),h5.congr hn.1 hw hp fun i hi a a1 a2=>hWd i a hi oZ a2,h3,by rw [rI];exact h.um,h.dk.lg.congr fun i a hi a1 a2=>by rw [hWd i a hi a1 oZ,hTs i a (.inl a2)]⟩⟩
    · rcases key k (ez n 0) hk with c | ⟨b,hb, -⟩
      · rw [c,hFn,hTs k _ (.inl (by simp only [ez];omega))];exact h.dk.qt.lb k hk
      · obtain ⟨-, -,k',nD,e⟩:=(gN hI).1 hb
        exact absurd (show ez n k'+1+v.ae % 8=0 by rw [<-e];rfl) (jf nD Sg hn.1).2.2.2
    · have hold:∀(ey:W.now i (ez n k+1+j)=F.now i (ez n k+1+j)),match ring j with
          | none=>fU (W.now i (ez n k+1+j)) ib=false
          | some u=>W.now i (ez n k+1+j)=whole (jJ u)/\wq u=0/\u.Ok:=fun ey=>by
        have:=h.dk.qt.rg i hi k j hk hj
        rw [ey,hFn,hTs i _ (by have:=jf hk hj hn.1;omega)]
        exact this
      by_cases c:j=v.ae % 8
      · subst c
        by_cases d:W.now i (ez n k+1+v.ae % 8)=whole (jJ v)
        · rw [rx2 i k d];exact ⟨d,hu⟩
        · rw [rx3 i k d]
          refine hold ((key i _ hi).resolve_right ?_)
          rintro ⟨b,hb,e⟩
          obtain ⟨-,rfl, -⟩:=(gN hI).1 hb
          exact d e
      · rw [rx1 i k j c]
        refine hold ((key i _ hi).resolve_right ?_)
        rintro ⟨b,hb,e⟩
        obtain ⟨-, -,k',nD,e'⟩:=(gN hI).1 hb
        exact Iu hk nD hj Sg hn.1 c e'
    · have jH:Mb rx 11 ls.length v:=⟨i0,k0,v.ae % 8,hi0,xT,Sg,rx2 _ _ he0,hvp⟩
      rcases hy with ⟨-,gf⟩ | ⟨⟨i,k,j, -, -, -,hj, -⟩, -,hm⟩
      · exact absurd jH (gf v)
      · rcases rx4 i k j y hj with c | c
        · exact c
        · have h1:=hm v jH
          have:=(hall j y c).2.2.1
          omega
    · rcases rx4 i k j y e with c | c
      · rw [c];exact mem_cons_self ..
      · exact mem_cons_of_mem _ (h.dk.rg.jd.2 j y c)
theorem rJ.done (ht:u.ae+1<=281474976710656){ks:List Int}{os:List (Int×Ob)}{ds:List (Int×List Pt)}{P2:PS}{kQ:Ob}{fs:List Pt}{note:Nat}(rV:note<18446744073709551616)(hc:J5 pr ls n u.ae all od ⟨R,x,[]⟩ ks os ds P2 kQ fs)
  (xS:((P2.R.run (de ls)).run (eA n ls ⟨11,u.ae+1,note,kQ.root⟩)).off=false) (Yn:(((P2.R.run (de ls)).run (eA n ls ⟨11,u.ae+1,note,kQ.root⟩)).run (de ls)).Ok) (ny:S.ds.length=ls.length) (st:List Bool) :
  ∃fD gY,Tt tp pr n ls.length q ((((P2.R.run (de ls)).run (eA n ls ⟨11,u.ae+1,note,kQ.root⟩)).run (de ls)).up st) no ⟨11,u.ae+1,note,kQ.root⟩ (lM.map (jC (u.ae+1))) GM fD os kQ gY:=by
 have _:=ho
 have _:=hS
 obtain ⟨l,hl,YS⟩:=hc.sh
 have Yo:=YS S
 obtain ⟨T,hT⟩:∃T,T=S.run l:=⟨_,rfl⟩
 have jI:P2.R=R.run l:=hl
 have Yo:J5 pr ls n u.ae all od ⟨S,x,[]⟩ ks os ds (P2.at T) kQ fs:=by rw [hT];exact Yo
 obtain ⟨fD,h6,h7⟩:=h.BO hI hn hw hp ht rV Yo
 obtain ⟨v,hv⟩:∃v:Ub,v=⟨11,u.ae+1,note,kQ.root⟩:=⟨_,rfl⟩
 rw [<-hv] at xS Yn h6 ⊢
 have hall:(((P2.R.run (de ls)).run (eA n ls v)).run (de ls))=R.run (l++(de ls++(eA n ls v++de ls))):=by rw [jI];simp only [Rk.dD]
 have ady:(((T.run (de ls)).run (eA n ls v)).run (de ls))=S.run (l++(de ls++(eA n ls v++de ls))):=by rw [hT];simp only [Rk.dD]
 have hoZ:(((P2.R.run (de ls)).run (eA n ls v)).run (de ls)).off=false:=by rw [uP];exact xS
 have adA:(((P2.R.run (de ls)).run (eA n ls v)).run (de ls)).ws=[]:=xO (l:=[]) hI (fun _ h=>by cases h) Yn (by rw [Rk.AM,Rk.AM,jI,Rk.AM,hd];exact ny) xS
 obtain ⟨Z,hZ⟩:∃Z,Z=(((P2.R.run (de ls)).run (eA n ls v)).run (de ls)):=⟨_,rfl⟩
 obtain ⟨Y,hY⟩:∃Y,Y=((((P2.at T).R.run (de ls)).run (eA n ls v)).run (de ls)):=⟨_,rfl⟩
 have hYT:Y=(((T.run (de ls)).run (eA n ls v)).run (de ls)):=hY
 obtain ⟨z1,z2⟩:=xN (l:=l++(de ls++(eA n ls v++de ls))) h.dk.qt.on hd sM (by rw [<-hall];exact hoZ)
 rw [<-hall,<-ady,<-hYT,<-hZ] at z1
 rw [<-hZ] at Yn adA ⊢
 rw [<-hY] at h6
 have SC:T.on:=h7
 have key:∀i a,i<ls.length->(Z.up st).now i a=Y.now i a:=fun i a hi=>by
  rcases Yj (R:=Z) st i a with c | ⟨w',hm, -⟩
  ·rw [c,Yh z1,hYT,p3 hI ((SC.run _).run _) hi,fc hI]
  ·rw [adA] at hm;cases hm
 exact ⟨fD,_,h6.dk.move hn.1 (Sx st) (fun i=>by rw [BZ st i Yn,uN z1]) (fun i=>by rw [BY,uO z1]) (fun i a=>Kh st i a) (fun i a hi _=>key i a hi) (h6.dk.po.congr hn.1 hw hp fun i hi a _ _=>key i a hi)⟩
end
end Go.Sl
namespace Go.Proofs.YtpabnmeponmonaaGreatDoor
def kO (T:TypeId)(fr:Nat×Nat)(tp:Tp)(pr:Bool)(n q w i:Nat)(r:Rg)(X:Chunk):Prop:=∃qs ls R no u all od x lM lD G pm cs mo ring S M Dn Q,Tu T fr tp pr n q w i r qs ls R no u all od x lM lD G G G G pm cs mo ring S M Dn Q/\Still w R/\X=S++(M++(Dn++Q))
theorem kO.inv {T:TypeId}{fr:Nat×Nat}{tp:Tp}{pr:Bool}{n q w i:Nat}{r:Rg}{X:Chunk}(h:kO T fr tp pr n q w i r X):Inv T fr tp pr n q w i r X:=by
 obtain ⟨qs,ls,R,no,u,all,od,rm,lM,lD,G,pm,cs,mo,ring,S,M,Dn,Q,h, -,rfl⟩:=h
 exact ⟨qs,ls,R,no,u,all,od,rm,lM,lD,G,G,G,G,pm,cs,mo,ring,S,M,Dn,Q,h,rfl⟩
section
variable {T:TypeId}{fr:Nat×Nat}{tp:Tp}{pr:Bool}{n q w i:Nat}(cg:Cg tp pr n q w){r:Rg}{qs:List Nat}{ls:List (Option Lv)}{R:Rk}{no:Nat}{u:Ub}{all:List (Int×Ob)}{od:List (Int×List Pt)}{rm:Rm}{lM lD:List aw}{G:List UInt8}{pm:List dg}{cs:List (Int×Ob)}{mo:Ob}{ring:Nat->Option Ub}{S M Dn Q:Chunk}
 (h:Tu T fr tp pr n q w i r qs ls R no u all od rm lM lD G G G G pm cs mo ring S M Dn Q) (bB:Still w R)
include h bB
theorem Tu.ug:kO T fr tp pr n q w (i+1) r (S++(M++(Dn++Q))):=by
 have h1:=h.no
 have h2:=h.tx
 have h3:=h.ws
 exact ⟨qs,ls,R,no,u,all,od,rm,lM,lD,G,pm,cs,mo,ring,S,M,Dn,Q,{ h with no:=by omega,tx:=by omega,ws:=by omega },bB,rfl⟩
theorem Tu.M6 {M0:List (Int×Ob)}{l':List aw}{S' M':Chunk}(hs:xJ T fr r.p qs tp pr n ls r.s R no u.ae u.note M0 od rm S')(hm:yJ r.a l' u.ae u.note (q - 10) G G M')(hr:bM pm M0 l')(hu:aT l'+10<=q):kO T fr tp pr n q w (i+1) r (S'++(M'++(Dn++Q))):=by
 have h1:=h.no
 have h2:=h.tx
 have h3:=h.ws
 exact ⟨qs,ls,R,no,u,M0,od,rm,l',lD,G,pm,cs,mo,ring,S',M',Dn,Q,{ h with jm:=h.jm.ac5 hr hu,st:=hs,dm:=hm,no:=by omega,tx:=by omega,ws:=by omega },bB,rfl⟩
include cg
theorem Na (rg:Nat)(k z x y:Int)(nt:Nat)(m:Nat)(hm:m<=1048576)(bs:List UInt8)(dP:bs.length=m)(mJ:Option Addr)(cb:Nat)(A:Chunk)(hA:Rd A 1 (.slice mJ m cb) m (au bs))(ME:m<=cb) :
  Ct 21 [ptr rg,uJ 0 k z x y nt (.slice mJ m cb)] [Rg.ch rg r,S++(M++(Dn++Q)),A] fun u Bs=>u = .bool true/\∃X',kO T fr tp pr n q w (i+1) r X'/\Bs=[Rg.ch rg r,X',A]:=by
 have f:=h.f cg
 have hq:=cg.q2
 have aO:=h.jm.rel.dl
 by_cases hb:¬(1<=k/\k<=112)\/x<0\/65536<x\/65536 - x<m
 ·refine IA (xM rg r.p r.s r.a r.d r.vQ S M A k z x y 1 nt (fun S'=>S'=S) (fun M'=>M'=M) bs m dP mJ cb hA hm (fun B' adc cc hB=>BQ h.st k x adc m cc B' hb) (BU k x mJ m cb A hb)) ?_
  rintro _ _ rfl rfl
  exact h.ug bB
 obtain ⟨k,rfl⟩:∃j:Nat,k=j:=⟨k.toNat,by omega⟩
 obtain ⟨x,rfl⟩:∃j:Nat,x=j:=⟨x.toNat,by omega⟩
 have hk:1<=k/\k<=112:=oZ
 have hx:x+m<=65536:=oZ
 cases hf:cQ lM k (max (lG lM k).b.length (x+m)) (q - 10) with
 | false =>
  refine IA (xM rg r.p r.s r.a r.d r.vQ S M A k z x y 3 nt (fun S'=>S'=S) (fun M'=>M'=M) bs m dP mJ cb hA hm (fun B' adc cc hB=>yH h.st f k hk x m hx adc cc B' hf) (yK h.dm aO hq k hk x m hx A mJ cb bs dP hA ME hf)) ?_
  rintro _ _ rfl rfl
  exact h.ug bB
 | true =>
  refine IA (xM rg r.p r.s r.a r.d r.vQ S M A k z x y 0 nt _ _ bs m dP mJ cb hA hm (fun B' adc cc hB=>Sk h.st f k hk x m hx B' adc cc bs dP hB.rd (by have:=hB.eH;omega) hf) (Sr h.dm aO hq k hk x m hx A mJ cb bs dP hA ME hf)) ?_
  rintro S' M' ⟨cf,h1,h2⟩ ⟨v,h3⟩
  obtain ⟨h4,h5⟩:=f.rel.write hk dP hx (h2.fn (k:=k) (by rw [iI,if_pos rfl])) h1 v h2.kn hf
  exact h.M6 bB h2 h3 h4 (by have:=cg.q10;omega)
theorem Nb (rg:Nat)(k z x y:Int)(nt:Nat)(b:Value)(A:Chunk) :
  Ct 21 [ptr rg,uJ 1 k z x y nt b] [Rg.ch rg r,S++(M++(Dn++Q)),A] fun u Bs=>u = .bool true/\∃X',kO T fr tp pr n q w (i+1) r X'/\Bs=[Rg.ch rg r,X',A]:=by
 have f:=h.f cg
 have hq:=cg.q2
 have aO:=h.jm.rel.dl
 have bu:=h.jm.rel.size k
 by_cases hb:y<0\/65536<y
 ·refine eN (nK rg r.p r.s r.a r.d r.vQ S M k z x y 1 nt b (fun S'=>S'=S) (fun M'=>M'=M) (BR h.st k y hb) (rK k y (.inr hb))) ?_
  rintro _ _ rfl rfl
  exact h.ug bB
 obtain ⟨y,rfl⟩:∃j:Nat,y=j:=⟨y.toNat,by omega⟩
 have hy:y<=65536:=oZ
 by_cases hk:1<=k/\k<=112
 ·cases hl:aJ all k with
  | none =>
   have hd:=h.jm.rel.isN hl
   have hz:=fA hk hl
   have c:=tN h.st k y hy (by rw [hz];decide)
   rw [hz] at c
   refine eN (nK rg r.p r.s r.a r.d r.vQ S M k z x y 130 nt b (fun S'=>S'=S) (fun M'=>M'=M) c (FV h.dm aO hq k hk y hy hd)) ?_
   rintro _ _ rfl rfl
   exact h.ug bB
  | some o =>
   obtain ⟨d,hd, -⟩:=h.jm.rel.isS hl
   cases hf:cQ lM k y (q - 10) with
   | false =>
    refine eN (nK rg r.p r.s r.a r.d r.vQ S M k z x y 3 nt b (fun S'=>S'=S) (fun M'=>M'=M) (yI h.st f k hk y hy hl hf) (yL h.dm aO hq k hk y hy hd hf)) ?_
    rintro _ _ rfl rfl
    exact h.ug bB
   | true =>
    refine eN (nK rg r.p r.s r.a r.d r.vQ S M k z x y 0 nt b _ _ (Sm h.st f k hk y hy hl hf) (Ss h.dm aO hq k hk y hy hd hf)) ?_
    rintro S' M' ⟨cf,h1,h2⟩ ⟨v,h3⟩
    obtain ⟨h4,h5⟩:=f.rel.ac8 hk hl hd hy (h2.fn (k:=k) (by rw [iI,if_pos rfl])) h1 v h2.kn hf
    exact h.M6 bB h2 h3 h4 (by have:=cg.q10;omega)
 ·have hz:=ed (all:=all) hk
  have c:=tN h.st k y hy (by rw [hz];decide)
  rw [hz] at c
  refine eN (nK rg r.p r.s r.a r.d r.vQ S M k z x y 1 nt b (fun S'=>S'=S) (fun M'=>M'=M) c (rK k y (.inl hk))) ?_
  rintro _ _ rfl rfl
  exact h.ug bB
theorem SE (rg:Nat)(k z x y:Int)(nt:Nat)(b:Value)(A:Chunk) :
  Ct 21 [ptr rg,uJ 2 k z x y nt b] [Rg.ch rg r,S++(M++(Dn++Q)),A] fun u Bs=>u = .bool true/\∃X',kO T fr tp pr n q w (i+1) r X'/\Bs=[Rg.ch rg r,X',A]:=by
 have f:=h.f cg
 have hq:=cg.q2
 have aO:=h.jm.rel.dl
 by_cases hz:1<=z/\z<=112
 ·obtain ⟨z,rfl⟩:∃j:Nat,z=j:=⟨z.toNat,by omega⟩
  have QG:1<=z/\z<=112:=oZ
  by_cases hk:1<=k/\k<=112
  ·cases hl:aJ all k with
   | none =>
    have hd:=h.jm.rel.isN hl
    have hs:=fA hk hl
    have c:=xK h.st k z hz (by rw [hs];decide)
    rw [hs] at c
    refine eN (oA rg r.p r.s r.a r.d r.vQ S M k z x y 130 nt b (fun S'=>S'=S) (fun M'=>M'=M) c (Iz h.dm aO hq k hk z QG hd)) ?_
    rintro _ _ rfl rfl
    exact h.ug bB
   | some o =>
    obtain ⟨d,hd, -, -,hr⟩:=h.jm.rel.isS hl
    by_cases jN:k=z
    ·subst jN
     refine eN (oA rg r.p r.s r.a r.d r.vQ S M z z x y 0 nt b (fun S'=>S'=S) (fun M'=>M'=M) (BS h.st z hz hl) (BV h.dm aO hq z QG hd)) ?_
     rintro _ _ rfl rfl
     exact h.ug bB
    ·cases hf:cQ lM z d.b.length (q - 10) with
     | false =>
      refine eN (oA rg r.p r.s r.a r.d r.vQ S M k z x y 3 nt b (fun S'=>S'=S) (fun M'=>M'=M) (BT h.st f k z hk hz jN hl (by rw [hr.size];exact hf)) (BW h.dm aO hq k hk z QG jN hd hf)) ?_
      rintro _ _ rfl rfl
      exact h.ug bB
     | true =>
      refine eN (oA rg r.p r.s r.a r.d r.vQ S M k z x y 0 nt b _ _ (Wr h.st f k z hk hz jN hl (by rw [hr.size];exact hf)) (Wx h.dm aO hq k hk z QG jN hd hf)) ?_
      rintro S' M' ⟨cf,h1,h2⟩ ⟨v,h3⟩
      obtain ⟨h4,h5⟩:=f.rel.fork QG hl hd (h2.fn (k:=z) (by rw [iI,if_pos rfl])) h1 v h2.kn hf
      exact h.M6 bB h2 h3 h4 (by have:=cg.q10;omega)
  ·have hs:=ed (all:=all) hk
   have c:=xK h.st k z hz (by rw [hs];decide)
   rw [hs] at c
   refine eN (oA rg r.p r.s r.a r.d r.vQ S M k z x y 1 nt b (fun S'=>S'=S) (fun M'=>M'=M) c (tO k z (.inl hk))) ?_
   rintro _ _ rfl rfl
   exact h.ug bB
 ·refine eN (oA rg r.p r.s r.a r.d r.vQ S M k z x y 1 nt b (fun S'=>S'=S) (fun M'=>M'=M) (FP h.st k z hz) (tO k z (.inr hz))) ?_
  rintro _ _ rfl rfl
  exact h.ug bB
omit cg in
theorem SF (rg:Nat)(k z x y:Int)(nt:Nat)(b:Value)(A:Chunk) :
  Ct 21 [ptr rg,uJ 3 k z x y nt b] [Rg.ch rg r,S++(M++(Dn++Q)),A] fun u Bs=>u = .bool true/\∃X',kO T fr tp pr n q w (i+1) r X'/\Bs=[Rg.ch rg r,X',A]:=by
 have aO:=h.jm.rel.dl
 have c:=Wp h.st k
 by_cases hk:1<=k/\k<=112
 ·rcases Ww h.dm aO k hk with ⟨hd,c2⟩ | ⟨⟨d,hd⟩,c2⟩
  ·have hl:aJ all k=none:=by
    rcases h.jm.rel.keys k with ⟨c, -⟩ | ⟨o,d, -,c, -⟩
    ·exact c
    ·rw [hd] at c;cases c
   rw [fA hk hl,if_neg (show ¬((0:Int),(130:Int)).2=0 by decide)] at c
   refine eN (BC rg r.p r.s r.a r.d r.vQ S M k z x y 130 nt b _ (fun M'=>M'=M) c c2) ?_
   rintro S' _ h1 rfl
   exact h.M6 bB h1 h.dm h.jm.rel h.jm.um
  ·obtain ⟨o,hl⟩:∃o,aJ all k=some o:=by
    rcases h.jm.rel.keys k with ⟨-,c⟩ | ⟨o,d,c, -⟩
    ·rw [hd] at c;cases c
    ·exact ⟨o,c⟩
   rw [eY hk hl,if_pos rfl] at c
   refine eN (BC rg r.p r.s r.a r.d r.vQ S M k z x y 0 nt b _ _ c c2) ?_
   rintro S' M' h1 ⟨j,d',h2,rfl,h3⟩
   exact h.M6 bB h1 h3 (h.jm.rel.del h2) (by have:=zJ lM j;have:=h.jm.um;omega)
 ·rw [ed hk,if_neg (show ¬((0:Int),(1:Int)).2=0 by decide)] at c
  refine eN (BC rg r.p r.s r.a r.d r.vQ S M k z x y 1 nt b _ (fun M'=>M'=M) c (FT k hk)) ?_
  rintro S' _ h1 rfl
  exact h.M6 bB h1 h.dm h.jm.rel h.jm.um
variable (hi:i<=1100000)
omit bB in
include hi in
theorem IE (rg:Nat)(k z x y:Int)(nt:Nat)(rV:nt<18446744073709551616)(b:Value)(A:Chunk) :
  Ct 21 [ptr rg,uJ 7 k z x y nt b] [Rg.ch rg r,S++(M++(Dn++Q)),A] fun u Bs=>u = .bool true/\∃r' X',kO T fr tp pr n q w (i+1) r' X'/\Bs=[Rg.ch rg r',X',A]:=by
 have f:=h.f cg
 obtain ⟨hn,hw,hp⟩:=h.lw cg
 have aO:=h.jm.rel.dl
 have xU:=h.tx
 have sM:=h.ws
 have gf:=h.no
 have e:aT (lM.map (jC (u.ae+1)))=aT lM:=rI ..
 have tU:kN (lM.map (jC (u.ae+1))):=⟨by rw [length_map];exact aO.jd,fun o ho=>by
  obtain ⟨o',h1,rfl⟩:=mem_map.1 ho
  rw [show (jC (u.ae+1) o').b=o'.b from (cA _ o' 64).2.1];exact aO.sm o' h1,fun o ho=>by
  obtain ⟨o',h1,rfl⟩:=mem_map.1 ho
  rw [show (jC (u.ae+1) o').no=o'.no from (cA _ o' 64).1];exact aO.no o' h1⟩
 refine (M3 rg r.p r.s r.a r.d r.vQ S M k z x y nt b _ _ (fun M' d' D'=>∃l',l'.map aw.nv=(lM.map (jC (u.ae+1))).map aw.nv/\yJ d' l' (u.ae+1) nt (q - 10) G G D') (zM h.dm aO nt (by omega)) (fun M' hM=>(rL hM tU).to fun v Bs ⟨d,l',D',h1,h2,h3,h4⟩=>⟨d,D',h1,⟨l',h2,h3⟩,h4⟩)
  (IC h.st f h.jm.al h.jm.dk.po h.jm.oe h.jm.ol h.jm.dk.jd h.jm.um (by omega) (by omega) nt rV)).on (Rs:=Dn++(Q++A)) bW ?_
 rintro v Bs ⟨hv,S',M',d',D',⟨ks,os,ds,P2,kQ,fs,h1,h2⟩,h3,⟨l',h4,h5⟩,rfl⟩
 obtain ⟨fD,h6,h7⟩:=h.jm.BO h.lo.i hn hw hp (note:=nt) (by omega) rV h1
 have hk:=h2.rk
 have Ji:=xI h.lo.i hk.1 (by rw [<-hk.2,h.ql,h.ll]) ((h7.run _).run _).2
 refine ⟨[Rg.ch rg ⟨r.p,r.vQ,r.s,r.a,d'⟩,S'++(M'++(D'++Q)),A],Dn,⟨hv,⟨r.p,r.vQ,r.s,r.a,d'⟩,_,⟨qs,ls,_,no,_,os,ds,_,lM.map (jC (u.ae+1)),l',G,fD,os,kQ,_,S',M',D',Q,⟨h.vq,h.lo,h.ql,h.ll,h6.nvD h4,h2,h3,h5,by omega,sOZ,by rw [Ji];exact Nat.zero_le _⟩,⟨Ji,fun i a hi=>by rw [p3 h.lo.i ((h7.run _).run _) (by rw [h.ll];exact hi),fc h.lo.i]⟩,rfl⟩,rfl⟩,bW⟩
end
section
variable {T:TypeId}{fr:Nat×Nat}{tp:Tp}{pr:Bool}{n q w i:Nat}(cg:Cg tp pr n q w)(hi:i<=1100000){r:Rg}{X:Chunk}(h:kO T fr tp pr n q w i r X)
include cg hi h
theorem FZ (rg:Nat)(o:ry){A:Chunk}(ho:aaZ A o)(h8:o.o<8):Ct 21 [ptr rg,ry.agg o] [Rg.ch rg r,X,A] fun u Bs=>u = .bool true/\∃r' X',kO T fr tp pr n q w (i+1) r' X'/\Bs=[Rg.ch rg r',X',A]:=by
 obtain ⟨qs,ls,R,no,u,all,od,rm,lM,lD,G,pm,cs,mo,ring,S,M,Dn,Q,h,bB,rfl⟩:=h
 obtain ⟨o,k,z,x,y,nt,b⟩:=o
 obtain ⟨⟨ad,m,c,bs,hb,hA,dP,hc,hm⟩,hx,rV⟩:=ho
 simp only at hb hx rV h8
 subst hb
 by_cases h0:o=0
 ·subst h0;exact (Na cg h bB rg k z x y nt m hm bs dP ad c A hA hc).to fun v Bs ⟨e,X',e1,e2⟩=>⟨e,r,X',e1,e2⟩
 by_cases h1:o=1
 ·subst h1;exact (Nb cg h bB rg k z x y nt _ A).to fun v Bs ⟨e,X',e1,e2⟩=>⟨e,r,X',e1,e2⟩
 by_cases h2:o=2
 ·subst h2;exact (SE cg h bB rg k z x y nt _ A).to fun v Bs ⟨e,X',e1,e2⟩=>⟨e,r,X',e1,e2⟩
 by_cases h3:o=3
 ·subst h3;exact (SF h bB rg k z x y nt _ A).to fun v Bs ⟨e,X',e1,e2⟩=>⟨e,r,X',e1,e2⟩
 by_cases h7:o=7
 ·subst h7;exact (IE cg h hi rg k z x y nt rV _ A).to fun v Bs ⟨e,r',X',e1,e2⟩=>⟨e,r',X',e1,e2⟩
 exact (Wy rg k z x y nt _ o h0 h1 h2 h3 h7 oZ oZ).dr (Rg.ch rg r++(S++(M++(Dn++(Q++A))))) bW ⟨rfl,r,_,h.ug bB,rfl⟩
omit hi in
theorem SG (rg:Nat)(o k z x y:Int)(h8:o<8)(hx:x<9223372036854775808/\y<9223372036854775808)(nt:Nat)(b:Value) :
  Ct 22 [ptr rg,uJ o k z x y nt b] [Rg.ch rg r,X] fun u Bs=>u = .bool true/\Bs=[Rg.ch rg r,X]:=by
 obtain ⟨qs,ls,R,no,u,all,od,rm,lM,lD,G,pm,cs,mo,ring,S,M,Dn,Q,h,bB,rfl⟩:=h
 by_cases h4:o=4
 ·subst h4;exact IB (WH cg h rg k z x y hx nt b)
 by_cases h5:o=5
 ·subst h5;exact IB (WG h rg k z x y nt b)
 by_cases h6:o=6
 ·subst h6;exact IB (Su cg h rg k z x y nt b)
 exact (WA rg k z x y nt b o h4 h5 h6 oZ).dr (Rg.ch rg r++(S++(M++(Dn++Q)))) bW ⟨rfl,rfl⟩
theorem SH (rg:Nat)(o:ry){A:Chunk}(ho:aaZ A o)(h8:o.o<8):Ct 6 [ptr rg,ry.agg o] [Rg.ch rg r,X,A] fun u Bs=>u = .bool true/\∃r' X',kO T fr tp pr n q w (i+1) r' X'/\Bs=[Rg.ch rg r',X',A] :=
 MJ rg r X A o.k o.z o.x o.y o.nt o.b (kO T fr tp pr n q w (i+1)) (kO T fr tp pr n q w (i+1)) o.o oZ (FZ cg hi h rg o ho h8) fun r' X' h'=>(SG cg h' rg o.o o.k o.z o.x o.y h8 ho.x o.nt o.b).to fun v Bs ⟨e,e1⟩=>⟨e,r',X',h',e1⟩
end
section
variable {T:TypeId}{fr:Nat×Nat}{tp:Tp}{pr:Bool}{n w:Nat}(nJ:tp.nJ)(ok:dj tp pr n w)(n2:n<=2048)(hw:w=tp.leaves.toNat)
include nJ ok n2 hw
theorem Nc (O:Chunk)(ad:Option Addr)(c:Nat)(hO:aC O 23 3 (.slice ad 1 c) 1 tp.lay):Ct 5 [.slice ad 1 c] [gK T fr,O] fun u Bs=>(bD pr w n / aL pr w 1024 / 4<10/\(∃x,u = .tuple #[x,.bool false,.bool true])/\Bs=[gK T fr,O]) \/
  10<=bD pr w n / aL pr w 1024 / 4/\∃rg r X,u = .tuple #[ptr rg,.bool true,.bool true]/\kO T fr tp pr n (bD pr w n / aL pr w 1024 / 4) w 0 r X/\Bs=[Rg.ch rg r,X]:=by
 obtain ⟨q,hq⟩:∃q,q=bD pr w n / aL pr w 1024 / 4:=⟨_,rfl⟩
 have Lq:∀k,k<w->wm ⟨11,[tp],0,k⟩=0/\fj.Ok ⟨11,[tp],0,k⟩:=fun k hk=>Sf nJ (by rw [<-hw];exact hk)
 have sM:∀k,(rY n k).ws=[]:=fun k=>by
  induction k with
  | zero=>rfl
  | succ k ih=>exact ih
 obtain ⟨R0,hR0⟩:∃R0,R0=(rY n w).run (upto (rW n fun k=>⟨11,[tp],0,k⟩) w):=⟨_,rfl⟩
 have hb:=VG tp pr n w ok n2 (gK T fr) O ad c hO (fun p qs t V C'=>∃ls,ls.length=w/\j0 qs ls/\iZ t 11 tp pr n ls 1 V/\bj p qs R0 C'/\qs.length=w)
  (fun p qs C Q j7 cq yc hC hQ hcq=>(L7 T fr p qs 11 tp pr n w ok yc (rY n w) C hC (Ix n w) (fun k hk=>⟨(tc hk).1,(tc hk).2.1⟩) Lq (by rw [sM];exact Nat.zero_le _) O ad c hO Q j7 cq hQ hcq).to fun v Bs ⟨t,V,ls,C',e1,e2,e3,e4,e5,e6⟩=>⟨t,V,C',e1,⟨ls,e2,e3,e4,by rw [hR0];exact e5,yc⟩,e6⟩)
  (fun br p qs t V C' ⟨ls,e2,e3,e4,e5,e6⟩=>by
   subst e2
   obtain ⟨k1,k2,k3⟩:=FO (w:=ls.length) (pool:=11) (tp:=tp) ok.hn.1
   rw [<-hR0] at k1
   exact VZ T fr p qs t 11 tp pr n ls 1 V e4 ok n2 R0 C' e5 (e3.ok k1.sz) e3.all k1.on br)
  (fun p qs s b0 b1 b2 b3 b4 b5=>∃ls R ring,j0 qs ls/\ls.length=w/\rJ tp pr n ls.length q R 1 ⟨11,1,0,ai⟩ [] [] ⟨[],[]⟩ [] [] (replicate 22528 0) (replicate 22528 0) [] [] Wj ring/\xJ T fr p qs tp pr n ls s R 1 1 0 [] [] ⟨[],[]⟩ (b0++(gK T fr++(b1++(b2++(b3++([]++(b4++([]++b5))))))))/\Still w R)
  (fun yS p qs t V C' ⟨ls,e2,e3,e4,e5,e6⟩=>by
   subst e2
   obtain ⟨k1,k2,k3,ring,k4⟩:=rJ.new (tp:=tp) (pr:=pr) (q:=q) e3.i ⟨ok.hn.1,n2⟩ oZ R0 hR0
   refine (aaL T fr p qs t 11 tp pr n ls 1 V e4 ok n2 R0 C' e5 (e3.ok k2) e3.all k1 yS (fun i x hx=>by
    obtain ⟨e,hi⟩:=e3.i.at hx
    rw [e];exact k3 i hi) dZ ?_).to ?_
   ·have hl:=Rk.eS (rY n ls.length) (upto (rW n fun k=>⟨11,[tp],0,k⟩) ls.length)
    have hc:=bY (f:=rW n fun k=>⟨11,[tp],0,k⟩) (c:=2000) (fun k=>by
     have:=bY (f:=ij n k (whole (dW ⟨11,[tp],0,k⟩))) (c:=274) (fun k=>by unfold ij;split <;> simp only [eT,length_replicate,length_cons,length_nil] <;> omega) 7
     show (upto (ij n k (whole (dW ⟨11,[tp],0,k⟩))) 7).length<=2000
     omega) ls.length
    rw [sM,<-hR0] at hl
    have:=ok.hw
    simp only [length_nil] at hl
    omega
   ·rintro v Bs ⟨s,al,ra,rd,rfl,C2,CA,CD,Al,a1,a2,a3,a4,rfl⟩
    have Ji:=xI e3.i a1.ok (by rw [<-a1.len,e6]) (k1.run _).2
    exact ⟨s,_,C2,V,CA,CD,Al,rfl,⟨ls,_,ring,e3,rfl,k4,⟨t,al,ra,rd,C2,V,[],CA,[],[],CD,[],Al,e4,a1,a2,rfl,a3,rfl,a4,rfl⟩,⟨Ji,fun i a hi=>by rw [p3 e3.i (k1.run _) hi,fc e3.i]⟩⟩,rfl⟩)
 rw [<-hq] at hb ⊢
 refine hb.on (Rs:=[]) bW ?_
 rintro v Bs (⟨h1,h2,rfl⟩ | ⟨h1,rg,p,qs,j7,cq,Q,s,b0,b1,b2,b3,b4,b5,a,fg,cG,DG,dy,cS,DS,d,bz,c',D',E,ru,J1,NK,rv,J2,NM,rfl,e1,e2,⟨ls,R,ring,e3,e4,e5,e6,e7⟩,e8,e9,e10,e11,e12,rfl⟩)
 ·exact ⟨_,[],.inl ⟨h1,h2,rfl⟩,bW⟩
 ·refine ⟨_,O++E,.inr ⟨h1,rg,⟨p,.slice j7 w cq,s,a,d⟩,_,rfl,⟨qs,ls,R,1,⟨11,1,0,ai⟩,[],[],⟨[],[]⟩,[],[],_,[],[],Wj,ring,_,_,_,Q,⟨⟨j7,cq,rfl,e2.rd⟩,e3,e1,e4,e5,e6,Sv (aC.nil _ _) e8 e9,Sv e10 e11 e12,by decide,sOZ,by rw [e7.ws];exact Nat.zero_le _⟩,e7,rfl⟩,rfl⟩,bW⟩
end
section
variable (a:Nat)(l:List aw)(aO:kN l)(ae note room:Nat)(vG vS:Value)(ad:Option Addr)(c:Nat)(D:Chunk)(hD:Rd D 130 (.slice ad l.length c) l.length (l.flatMap aw.lay))
include aO hD
theorem Nd (ks:List Int)(m:Nat)(hm:ks.length=m)(KD:m<=1000)(E:Chunk)(KV:Option Addr)(c0:Nat)(hE:aC E 3 1 (.slice KV m c0) m (ints ks)):Ct 28 [.slice KV m c0,ptr a] [E,[(a,iJ (.slice ad l.length c) ae note room vG vS)],D] fun u Bs=>∃b E',u = .bool b/\Bs=[E',[(a,iJ (.slice ad l.length c) ae note room vG vS)],D]:=by
 subst hm
 have mM:=aO.jd
 by_cases hlen:ks.length=l.length
 ·obtain ⟨h1,h2,⟨hv,h3,rfl⟩ | ⟨g,c1,r,hv,rfl,h3,h4,h5⟩⟩:=hE
  ·obtain rfl:=length_eq_zero_iff.1 h3
   obtain rfl:=length_eq_zero_iff.1 hlen.symm
   cases hv
   refine st func28 fun w0 => ?_
   refine gl [0,1] (fun i:Nat=>[(5,.int .i64 i)]) (fun _=>[]) (fun i=>i=0) (fun i=>0) 0 rfl ?_
   rintro i rfl
   refine gz ?_
   exact fin ⟨true,_,rfl,rfl⟩ aa
  ·cases hv
   refine st func28 fun w0 => ?_
   refine gl [0,1] (fun ((i,_):Nat×List Value)=>[(5,.int .i64 i)]) (fun (i,pre)=>[[(g,ax (pre++((ints ks).drop i++r)) 3)]]) (fun (i,pre)=>i<=l.length/\pre.length=i) (fun (i,_)=>l.length - i) (0,[]) ⟨by omega,rfl⟩ ?_
   rintro ⟨i,pre⟩ ⟨hi,oE⟩
   refine gi ?_ ?_ <;> intro br
   ·have bh:i<l.length:=oZ
    have hik:i<ks.length:=oZ
    obtain ⟨gD,off,rfl⟩:=hD.addr oZ
    have hs:=av aw.ak l i l[i] (by simp)
    have vg:=hs 0 _ (aw.Mh _)
    have LG:(ints ks).drop i = .int .i64 ks[i] :: (ints ks).drop (i+1):=by
     rw [drop_eq_getElem_cons (by simp [ints];omega)]
     congr 1
     simp [ints]
    rw [LG]
    have bX:(pre++(.int .i64 ks[i] :: (ints ks).drop (i+1)++r))[i]? = some (.int .i64 ks[i]):=by
     rw [getElem?_append_right oZ,oE,Nat.sub_self];rfl
    have eQ:(pre++(.int .i64 ks[i] :: (ints ks).drop (i+1)++r)).set i (.int .i64 (-1))=(pre++[.int .i64 (-1)])++((ints ks).drop (i+1)++r):=by
     rw [set_append_right _ _ oZ,oE,Nat.sub_self,append_assoc];rfl
    refine gi ?_ ?_ <;> intro ey
    ·refine gz ?_
     exact fin ⟨false,_,rfl,rfl⟩ aa
    ·refine go ?_
     rw [eQ]
     refine gn ?_
     exact ⟨(i+1,pre++[.int .i64 (-1)]),⟨by omega,by simp [oE]⟩,sOZ,ar,_,aa⟩
   ·obtain rfl:i=l.length:=oZ
    refine gz ?_
    exact fin ⟨true,_,rfl,rfl⟩ aa
 ·refine st func28 fun w0 => ?_
  refine gz ?_
  exact fin ⟨false,_,rfl,rfl⟩ aa
theorem WV (s t:Nat)(vA:Value)(ra rd stx sno:Nat)(LA:List (Int×Value))(CA:Chunk)(hA:Mp ra .i64 LA CA)(hL:LA.length<=112)(ey:stx≠ae) :
  Ct 12 [ptr s,ptr a] [[(s,bU t vA ra rd stx sno)],CA,[(a,iJ (.slice ad l.length c) ae note room vG vS)],D] fun u Bs=>u = .bool false/\Bs=[[(s,bU t vA ra rd stx sno)],CA,[(a,iJ (.slice ad l.length c) ae note room vG vS)],D]:=by
 have aci:¬((stx:Int)=(ae:Int)):=oZ
 refine st func12 fun w0 => ?_
 refine gc (sW s t vA ra rd stx sno LA CA hA oZ) ?_
 rintro _ _ ⟨ks,iY,c1,E,k1,k2,rfl,hE,rfl⟩
 have kI:ks.length=LA.length:=by simpa using k1.length_eq
 refine gc (Nd a l aO ae note room vG vS ad c D hD ks LA.length kI oZ E iY c1 hE) ?_
 rintro _ _ ⟨b,E',rfl,rfl⟩
 cases b
 ·refine gd [0,4,8,12,20,24,28,32,17,36,40,44,48,56,60,64,68,53,72,76] ?_
  refine gz ?_
  exact fin ⟨rfl,rfl⟩ aa
 ·refine gd [0,4,8,12,20,24,28,32,17,36,40,44,48,56,60,64,68,53,72,76] ?_
  refine gc (QR s t vA ra rd stx sno) ?_
  rintro _ _ ⟨rfl,rfl⟩
  refine gz ?_
  exact fin ⟨rfl,rfl⟩ aa
end
theorem WW (j7:Option Addr)(w cq:Nat)(K C Q:Chunk)(P1:Nat->Chunk->Prop)(himp:Ct 26 [.slice j7 w cq] [K,C,Q] fun u Bs=>∃t V,u = .tuple #[ptr t,.int .i64 0]/\P1 t V/\Bs=[V,K,C,Q])
  (P2:Nat->Chunk->Chunk->Chunk->Chunk->Chunk->Chunk->Chunk->Chunk->Prop) (mI:∀t V,P1 t V->Ct 27 [ptr t] [K,C,V] fun u Bs=>∃s b0 b1 b2 b3 b4 b5 b6 b7,u = .tuple #[ptr s,.int .i64 0]/\P2 s b0 b1 b2 b3 b4 b5 b6 b7/\Bs=[b0,K,b1,b2,b3,b4,b5,b6,b7]) :
  Ct 11 [.slice j7 w cq] [K,C,Q] fun u Bs=>∃s b0 b1 b2 b3 b4 b5 b6 b7,u = .tuple #[ptr s,.bool true]/\P2 s b0 b1 b2 b3 b4 b5 b6 b7/\Bs=[b0,K,b1,b2,b3,b4,b5,b6,b7,Q]:=by
 refine st func11 fun w0 => ?_
 refine gc himp ?_
 rintro _ _ ⟨t,V,rfl,h1,rfl⟩
 refine gc (mI t V h1) ?_
 rintro _ _ ⟨s,b0,b1,b2,b3,b4,b5,b6,b7,rfl,h2,rfl⟩
 refine gz ?_
 exact fin ⟨s,b0,b1,b2,b3,b4,b5,b6,b7,rfl,h2,rfl⟩ aa
end Go.Proofs.YtpabnmeponmonaaGreatDoor
