/-
  Texts put together (9).
-/
import Derived.Test.YtcfioaeamfappaaGreatDoorZTopFull8
namespace Go.Sl
theorem Tu {l:eR}(h:uN l=0){i:Nat}{t:Tp}(ht:l.aJ[i]? = some t):JQ (aC (dJ l)) (15+6*i)=t:=by
 obtain ⟨hh,hm⟩:=(ia l).1 h
 have f5:=zB [] (List.replicate (96 - (dJ l).length) 0) l.aJ (Ie l) (q:=15) (lq l) hm
 have hx:aC (dJ l)=Ie l++(l.aJ.flatMap wX++List.replicate (96 - (dJ l).length) 0):=by rw [aC,dJ,List.append_assoc]
 rw [<-hx] at f5
 obtain ⟨hi,rfl⟩:=List.getElem?_eq_some_iff.1 ht
 have:=congrArg (·[i]?) f5
 simpa [hi] using this
theorem Ox {l:List Tp}{i:Nat}{t:Tp}(h:l[i]? = some t):(l.take (i+1)).flatMap Tp.lay=(l.take i).flatMap Tp.lay++t.lay:=by
 obtain ⟨hi,rfl⟩:=List.getElem?_eq_some_iff.1 h
 rw [List.take_succ_eq_append_getElem hi,List.flatMap_append];simp
end Go.Sl
namespace Go.Proofs.YtcfioaeamfappaaGreatDoor
open Go.Sl
set_option maxRecDepth 10000
set_option maxHeartbeats 4000000
theorem Gl (T:TypeId)(fr:Nat×Nat)(O:Chunk)(ad:Option Addr)(c:Nat)(l:eR)(h:uN l=0)(ho:l.Ok)(hc:128<=c)(hO:Rd O 1 (.slice ad 128 c) 128 (ak (whole (dJ l)))):Ct 126 [.slice ad 128 c] [gK T fr,O] fun u Bs=>∃v D,u = .tuple #[mv l v,.int .i64 0]/\az D 23 3 v l.aJ.length (l.aJ.flatMap Tp.lay)/\Bs=[D,gK T fr,O]:=by
 have hl:=ji l
 obtain ⟨hh,F0⟩:=(ia l).1 h
 obtain ⟨m1,m2,m3,m4,m5,m6⟩:=hh
 obtain ⟨o1,o2⟩:=gQ (x:=dJ l) (letters:=iu) oZ rfl ⟨_,by rw [dJ,Ie,List.append_assoc]⟩
 have nC:=pE T fr O ad c _ iu (fP oZ) hc rfl hO
 rw [o1,o2] at nC
 have gh:=NZ h ho
 have hp:(aC (dJ l)).length=96:=ea oZ
 have a1:numOf (cut (aC (dJ l)) 4 8)=l.pool:=congrArg eR.pool gh
 have a2:((numOf (cut (aC (dJ l)) 12 1):Nat):Int)=l.top:=congrArg eR.top gh
 have a3:((numOf (cut (aC (dJ l)) 13 1):Nat):Int)=l.place:=congrArg eR.place gh
 have a4:numOf (cut (aC (dJ l)) 14 1)=l.aJ.length:=by
  have:=congrArg (fun x=>x.aJ.length) gh
  rw [show (FX (aC (dJ l))).aJ.length=nm (aC (dJ l)) 14 1 by simp [FX]] at this;exact this
 have b2:numOf (cut (aC (dJ l)) 12 1)<256:=(SW (aC (dJ l)) 12).1
 have b3:numOf (cut (aC (dJ l)) 13 1)<256:=(SW (aC (dJ l)) 13).1
 refine st Tryz.func126 fun w0 => ?_
 refine ga ?_;intro b2
 refine gc nC ?_
 rintro _ _ ⟨w,rfl,hw,rfl⟩
 have hw:=hw rfl
 obtain ⟨ad2,c2,rfl⟩:=hw.slice
 refine ge ?_
 refine ga ?_;intro b8
 refine ga ?_;intro wV
 refine gc (q8 (aC (dJ l)) 96 hp oZ O _ hw) ?_
 rintro _ _ ⟨p,A,rfl,hA,rfl⟩
 refine ge ?_
 refine ga ?_;intro d2
 refine gc (pA p (aC (dJ l)) 0 4 A hA oZ) ?_
 rintro _ _ ⟨A1,b1,rfl,l6,rfl⟩
 refine gc (cj p (aC (dJ l)) 4 8 A1 l6 oZ oZ) ?_
 rintro _ _ ⟨A2,rfl,lr,rfl⟩
 refine gc (cj p (aC (dJ l)) 12 1 A2 lr oZ oZ) ?_
 rintro _ _ ⟨A3,rfl,uQ,rfl⟩
 refine gc (cj p (aC (dJ l)) 13 1 A3 uQ oZ oZ) ?_
 rintro _ _ ⟨A4,rfl,wY,rfl⟩
 refine ga ?_;intro d3
 refine gc (cj p (aC (dJ l)) 14 1 A4 wY oZ oZ) ?_
 rintro _ _ ⟨A5,rfl,E3,rfl⟩
 rw [a1,a2,a3,a4]
 refine gl [0,2,3,24] (fun ((i,_):Nat×Chunk×Value×Chunk)=>[(25,.int .i64 i)]) (fun (_,A,v,D)=>[A,[(d3,av [.int .u64 l.pool,v,.int .i64 l.top,.int .i64 l.place] 105)],D]) (fun (i,A,v,D)=>i<=l.aJ.length/\n9 p (aC (dJ l)) (15+6*i) 0 A/\az D 23 3 v i ((l.aJ.take i).flatMap Tp.lay)) (fun (i,_)=>l.aJ.length - i) (0,A5,.slice none 0 0,[]) ⟨by omega,E3,az.nil _ _⟩ ?_
 rintro ⟨i,A,v,D⟩ ⟨hi,hA,hD⟩
 refine gi ?_ ?_ <;> intro bh
 ·obtain ⟨t,ht⟩:=eB (l:=l.aJ) (i:=i) oZ
  have gh:=Tu h ht
  have c1:((numOf (cut (aC (dJ l)) (15+6*i) 1):Nat):Int)=t.kind:=congrArg Tp.kind gh
  have c2:((numOf (cut (aC (dJ l)) (15+6*i+1) 1):Nat):Int)=t.leaves:=congrArg Tp.leaves gh
  have c3:((numOf (cut (aC (dJ l)) (15+6*i+1+1) 4):Nat):Int)=t.bz:=congrArg Tp.bz gh
  have e1:numOf (cut (aC (dJ l)) (15+6*i) 1)<256:=(SW (aC (dJ l)) (15+6*i)).1
  have e2:numOf (cut (aC (dJ l)) (15+6*i+1) 1)<256:=(SW (aC (dJ l)) (15+6*i+1)).1
  have e3:numOf (cut (aC (dJ l)) (15+6*i+1+1) 4)<4294967296:=(SW (aC (dJ l)) (15+6*i+1+1)).2.2.1
  have JW:=Ox ht
  refine qC [[(d3,av [.int .u64 l.pool,v,.int .i64 l.top,.int .i64 l.place] 105)]] [0,4,8,20,32,13,16,25,28,37,40,44,49,53,56,63] ?_
  refine gc (cj p (aC (dJ l)) (15+6*i) 1 A hA oZ oZ) ?_
  rintro _ _ ⟨A1,rfl,l6,rfl⟩
  refine gc (cj p (aC (dJ l)) (15+6*i+1) 1 A1 l6 oZ oZ) ?_
  rintro _ _ ⟨A2,rfl,lr,rfl⟩
  refine gc (cj p (aC (dJ l)) (15+6*i+1+1) 4 A2 lr oZ oZ) ?_
  rintro _ _ ⟨A3,rfl,uQ,rfl⟩
  refine gm ?_;intro g5
  rw [c1,c2,c3]
  have V6:Rd [(g5,av t.lay 23)] 3 (.slice (some ⟨g5,0,none⟩) 1 1) 1 t.lay:=aw (Tp.aj t) t.bC oZ _
  refine gp ?_;intro fJ c3 C3 ka
  rw [<-JW] at ka
  refine gn ?_
  exact ⟨(i+1,A3,_,C3),⟨by omega,by rw [show 15+6*(i+1)=15+6*i+1+1+4 by omega];exact uQ,ka⟩,by simp only;omega,aq,_,aa⟩
 ·obtain rfl:i=l.aJ.length:=by omega
  rw [List.take_length] at hD
  have Cj:=re D v l _ rfl hD.rd
  obtain ⟨sN,c7,rfl⟩:=hD.slice
  rw [h] at Cj
  refine ga ?_;intro RC
  have hP:=FP p (aC (dJ l)) (15+6*l.aJ.length) A hA oZ
  rw [hp,uT hl] at hP
  refine gc hP ?_
  rintro _ _ ⟨A6,RB,rfl⟩
  have hDn:=td p (aC (dJ l)) 96 0 A6 RB oZ
  rw [hp] at hDn
  refine gc hDn ?_
  rintro _ _ ⟨rfl,rfl⟩
  refine gc Cj ?_
  rintro _ _ ⟨rfl,rfl⟩
  refine gz ?_
  exact fin ⟨_,D,rfl,hD,rfl⟩ aa
theorem lz (D:Chunk)(ad:Option Addr)(m c:Nat)(xs:List Value)(hD:az D 23 3 (.slice ad m c) m xs)(hm:1<=m/\m<=1000):Ct 33 [.slice ad m c] [D] fun u Bs=>∃ba c' D',u = .slice ba m c'/\az D' 23 3 (.slice ba m c') m xs/\Bs=[D',D]:=by
 obtain ⟨g,c0,r,hv,rfl, -⟩:∃g c0 r,Value.slice ad m c = .slice (some ⟨g,0,none⟩) m c0/\D=[(g,av (xs++r) 23)]/\True:=by
  rcases hD.2.2 with ⟨h1,h2,h3⟩ | ⟨g,c0,r,h1,h2,h3⟩
  ·omega
  ·exact ⟨g,c0,r,h1,h2,trivial⟩
 cases hv
 have hR:=hD.rd
 refine st Tryz.func33 fun w0 => ?_
 refine gm ?_;intro b
 have hB:az [(b,av [] 23)] 23 3 (.slice (some ⟨b,0,none⟩) 0 0) 0 []:=⟨rfl,by simp,.inr ⟨b,0,[],rfl,rfl,by omega,by simp [maxLen],rfl⟩⟩
 refine gp ?_;intro ba c' C' bA
 rw [Nat.zero_add,List.nil_append] at bA
 refine gz ?_
 exact fin ⟨ba,c',C',by rw [Nat.zero_add],bA,rfl⟩ aa
theorem Oy (a q:Nat)(l:eR)(L:Chunk)(hL:Oa a q l L)(hm:1<=l.aJ.length/\l.aJ.length<=1000):Ct 69 [ptr a] [L] fun u Bs=>∃ad c D,u=mv l (.slice ad l.aJ.length c)/\az D 23 3 (.slice ad l.aJ.length c) l.aJ.length (l.aJ.flatMap Tp.lay)/\Bs=[D,L]:=by
 obtain ⟨ad,c,D,z1,z2,z3,hD,rfl⟩:=hL
 refine st Tryz.func69 fun w0 => ?_
 refine gs ?_
 refine ga ?_;intro b2
 refine ga ?_;intro b3
 refine gc (lz D ad _ c _ hD hm) ?_
 rintro _ _ ⟨ba,c',D',rfl,eo,rfl⟩
 refine gz ?_
 exact fin ⟨ba,c',D',rfl,eo,rfl⟩ aa
section
variable (T:TypeId)(fr:Nat×Nat)(p:Nat)(qs:List Nat)(R:Rk)(C:Chunk)(hC:br p qs R C)(i q n:Nat)(hq:qs[i]? = some q)(hl:R.live i)(ho:R.off=false)(hn:R.size i=n)(h:324<=n/\n<=8192)
include hC hq hl hn h ho
theorem Tv (l:eR)(he:uN l=0)(hk:l.Ok)(hs:∀t,l.aJ[l.top.toNat]? = some t->t.bz=n)(k0:Nat)(xP:k0<4)(eV:∀k,k<k0->fQ (R.now i (fA n k)) iu=false)(Yk:R.now i (fA n k0)=whole (dJ l)) :
  Ct 68 [ptr q] [gK T fr,C] fun u Bs=>∃a L,u = .tuple #[ptr a,.int .i64 0]/\Oa a q l L/\Bs=[L,gK T fr,C]:=by
 obtain ⟨hh,F0⟩:=(ia l).1 he
 obtain ⟨m1,m2,m3,m4,m5,m6⟩:=hh
 obtain ⟨tn,YI⟩:∃k:Nat,l.top=k:=⟨l.top.toNat,by omega⟩
 have JW:tn<l.aJ.length:=by omega
 have hts:=hs _ (by rw [YI,Int.toNat_natCast];exact List.getElem?_eq_getElem JW)
 have hx:=ar Tp.aj l.aJ tn _ (List.getElem?_eq_getElem JW) 2 _ rfl
 rw [hts] at hx
 refine st Tryz.func68 fun w0 => ?_
 refine gc (cM p qs R C hC i q hq) ?_
 rintro _ _ ⟨rfl,rfl⟩
 rw [hn]
 refine gc (pJ p qs R C hC i q n hq hn h) ?_
 rintro _ _ ⟨rfl,rfl⟩
 refine gl [0,14] (fun k:Nat=>[(15,.int .i64 k)]) (fun _=>[]) (fun k=>k<=k0) (fun k=>k0 - k) 0 (Nat.zero_le _) ?_
 intro k rv
 have LM:k<4:=by omega
 have Fa:=zL n LM
 have mj:=zK (k:=k) h.1
 have xg:=kF hC.ok (i:=i) (a:=fA n k) oZ
 obtain ⟨lU,fM⟩:=xg
 refine gc (ng p qs R C hC i q (fA n k) 1 hq hl oZ) ?_
 rintro _ _ (⟨dN,rfl,rfl⟩ | ⟨-,g,rfl,rfl⟩)
 ·rw [ho] at dN;cases dN
 rw [lU]
 have hg:Rd [(g,av (ak (R.now i (fA n k))) 5)] 1 (.slice (some ⟨g,0,none⟩) 128 128) 128 (ak (R.now i (fA n k))):=aw (by rw [ai,fM]) (aK _) oZ _
 rcases Nat.lt_or_ge k k0 with bh | xN
 ·refine gc (Ch T fr _ _ 128 _ fM oZ hg (eV k bh)) ?_
  rintro _ _ ⟨rfl,rfl⟩
  refine ga ?_;intro b8
  refine gd [0,4,8,12,16,20,24,28,32,36,40,45,48,52] ?_
  refine gn ?_
  exact ⟨k+1,by omega,by omega,aq,_,aa⟩
 ·obtain rfl:k=k0:=by omega
  rw [Yk] at hg ⊢
  have abb:=Gl T fr _ _ 128 l he hk oZ hg
  simp only [mv,YI] at abb
  refine gc abb ?_
  rintro _ _ ⟨v,D,rfl,hD,rfl⟩
  obtain ⟨j2,cv,rfl⟩:=hD.slice
  obtain ⟨gv',adm,rfl⟩:=hD.rd.addr oZ
  have jq:=hD.rd
  refine ga ?_;intro b8
  refine gd [0,4,8,12,16,20,24,28,32,36,40,45,48,52] ?_
  refine gc (cM p qs R C hC i q hq) ?_
  rintro _ _ ⟨rfl,rfl⟩
  rw [hn]
  refine ga ?_;intro a
  refine gz ?_
  exact fin ⟨a,[(a,V7 q l (.slice (some ⟨gv',adm,none⟩) l.aJ.length cv) 0 0 0)]++D,rfl,⟨_,cv,D,0,0,0,hD,rfl⟩,rfl⟩ (by simp only [V7,YI];exact aa)
end
end Go.Proofs.YtcfioaeamfappaaGreatDoor
namespace Go.Sl
def aN (pr:Bool)(w b:Nat):Nat:=if pr then dG w b else aD b
def bD (pr:Bool)(w n:Nat):Nat:=if pr then w*(n - 292) else n - 292
def sS (pr:Bool)(ls:List (Option Lv))(at_:Nat)(b:List UInt8):List Ev:=if pr then upto (nH ls at_ b) (dG ls.length b.length) else upto (nG ls at_ b) ls.length
def vg (pr:Bool)(R:Rk)(ls:List (Option Lv))(at_:Nat)(b:List UInt8):Prop :=
 if pr then ∀(j:Nat) (s:eF) (x:Lv),(iW ls.length b)[j]? = some s->ls[(at_+j) % ls.length]? = some (some x)->R.now x.i (274+(at_+j) / ls.length)=s
 else ∀x,some x∈ls->R.rn x.i (274+at_) (aD b.length)=jD b
def iF (ls:List (Option Lv)):List Ev:=upto (ni ls) ls.length
end Go.Sl
namespace Go.Proofs.YtcfioaeamfappaaGreatDoor
open Go.Sl
set_option maxRecDepth 10000
set_option maxHeartbeats 4000000
abbrev Iw (pr:Bool)(m:Nat):Value:=match pr with
 | true=>.iface 175 (ptr m)
 | false=>.iface 179 (ptr m)
def DvC (pr:Bool)(m:Nat)(ls:List (Option Lv))(sz:Nat)(M:Chunk):Prop:=match pr with
 | true=>Kd m ls sz M
 | false=>J7 m ls (List.replicate ls.length none) sz M
abbrev Db (pool:Nat)(vT vI vL vD:Value)(no:Nat):Obj:=av [.int .u64 pool,vT,vI,vL,vD,.int .u64 no] 102
def jd (t pool:Nat)(tp:Tp)(pr:Bool)(n:Nat)(ls:List (Option Lv))(no:Nat)(V:Chunk):Prop:=∃m M fU cT DT dP cI DI jS cL DL ov cl Dl vD DD L,
 az DT 23 3 (.slice fU 1 cT) 1 tp.lay/\az DI 183 1 (.slice dP 1 cI) 1 [Iw pr m] /\
 az DL 111 1 (.slice jS 1 cL) 1 [.slice ov ls.length cl]/\az Dl 108 1 (.slice ov ls.length cl) ls.length (ls.map iv) /\
 DvC pr m ls (n - 292) M/\iw (fun k=>⟨pool,[tp],0,k⟩) 0 ls L /\
 V=[(t,Db pool (.slice fU 1 cT) (.slice dP 1 cI) (.slice jS 1 cL) vD no)]++(DT++(DI++(DL++(Dl++(DD++(M++L))))))
structure dE (tp:Tp)(pr:Bool)(n w:Nat):Prop where
 hn:324<=n/\n<=8192
 hw:1<=w/\w<=5
 hp:pr=true->3<=w
 ht:tp=⟨tp.kind,w,n⟩
 hk:pr=decide (tp.kind=3)
section
variable (t pool:Nat)(tp:Tp)(pr:Bool)(n:Nat)(ls:List (Option Lv))(no:Nat)(V:Chunk)(hV:jd t pool tp pr n ls no V)(ok:dE tp pr n ls.length)
include hV
theorem zS:Ct 135 [ptr t,.int .i64 0] [V] fun u Bs=>u = .bool true/\Bs=[V]:=by
 obtain ⟨m,M,fU,cT,DT,dP,cI,DI,jS,cL,DL,ov,cl,Dl,vD,DD,L,hT,hI,wU,hl,hM,hL,rfl⟩:=hV
 refine st Tryz.func135 fun w0 => ?_
 refine gs ?_
 refine gz ?_
 exact fin ⟨rfl,rfl⟩ aa
theorem zT:Ct 81 [ptr t] [V] fun u Bs=>∃ad c D,u = .slice ad 1 c/\az D 23 3 (.slice ad 1 c) 1 tp.lay/\Bs=[D,V]:=by
 obtain ⟨m,M,fU,cT,DT,dP,cI,DI,jS,cL,DL,ov,cl,Dl,vD,DD,L,hT,hI,wU,hl,hM,hL,rfl⟩:=hV
 refine st Tryz.func81 fun w0 => ?_
 refine gs ?_
 refine gc (lz DT fU 1 cT _ hT oZ) ?_
 rintro _ _ ⟨ad,c,D,rfl,hD,rfl⟩
 refine gz ?_
 exact fin ⟨ad,c,D,rfl,hD,rfl⟩ aa
include ok
theorem Ix:Ct 82 [ptr t,.int .i64 0] [V] fun u Bs=>u = .int .i64 (bD pr ls.length n:Nat)/\Bs=[V]:=by
 have hh:=zS t pool tp pr n ls no V hV
 refine st Tryz.func82 fun w0 => ?_
 refine gc hh ?_
 rintro _ _ ⟨rfl,rfl⟩
 obtain ⟨m,M,fU,cT,DT,dP,cI,DI,jS,cL,DL,ov,cl,Dl,vD,DD,L,hT,hI,wU,hl,hM,hL,rfl⟩:=hV
 have Oz:=hI.rd
 obtain ⟨gI,oI,rfl⟩:=Oz.addr oZ
 refine gs ?_
 cases pr with
 | true =>
  have bV:[Iw true m][0]? = some (.iface 175 (ptr m)):=rfl
  obtain ⟨ad,c,Cv,g,ou,rfl⟩:=hM
  have h3:=ok.hp rfl
  refine gs ?_
  refine gj (Iq m ad ls.length c (.slice (some ⟨g,0,none⟩) ls.length ls.length) (n - 292) ⟨h3,ok.hw.2⟩ (by have:=ok.hn;omega)) ?_
  rintro _ _ ⟨rfl,rfl⟩
  refine gz ?_
  exact fin ⟨rfl,rfl⟩ aa
 | false =>
  have bV:[Iw false m][0]? = some (.iface 179 (ptr m)):=rfl
  obtain ⟨ad,c,Cv,g,ou,gM,rfl⟩:=hM
  have bx:Ct 350 [ptr m] [[(m,zN (.slice ad ls.length c) (.slice (some ⟨g,0,none⟩) ls.length ls.length) ((n - 292:Nat):Int))]] fun u Bs=>u = .int .i64 ((n - 292:Nat):Int)/\Bs=[[(m,zN (.slice ad ls.length c) (.slice (some ⟨g,0,none⟩) ls.length ls.length) ((n - 292:Nat):Int))]]:=by
   refine st Tryz.func350 fun w0 => ?_
   refine gz ?_
   exact fin ⟨rfl,rfl⟩ aa
  refine gs ?_
  refine gj bx ?_
  rintro _ _ ⟨rfl,rfl⟩
  refine gz ?_
  exact fin ⟨rfl,rfl⟩ aa
theorem zU (b:Nat)(hb:1<=b/\b<=1024):Ct 83 [ptr t,.int .i64 0,.int .i64 b] [V] fun u Bs=>u = .int .i64 (aN pr ls.length b:Nat)/\Bs=[V]:=by
 have hh:=zS t pool tp pr n ls no V hV
 refine st Tryz.func83 fun w0 => ?_
 refine gc hh ?_
 rintro _ _ ⟨rfl,rfl⟩
 obtain ⟨m,M,fU,cT,DT,dP,cI,DI,jS,cL,DL,ov,cl,Dl,vD,DD,L,hT,hI,wU,hl,hM,hL,rfl⟩:=hV
 have Oz:=hI.rd
 obtain ⟨gI,oI,rfl⟩:=Oz.addr oZ
 refine gs ?_
 cases pr with
 | true =>
  have bV:[Iw true m][0]? = some (.iface 175 (ptr m)):=rfl
  obtain ⟨ad,c,Cv,g,ou,rfl⟩:=hM
  have h3:=ok.hp rfl
  refine gs ?_
  refine gj (zO m ad ls.length c (.slice (some ⟨g,0,none⟩) ls.length ls.length) ((n - 292:Nat):Int) ⟨h3,ok.hw.2⟩ b hb) ?_
  rintro _ _ ⟨rfl,rfl⟩
  refine gz ?_
  exact fin ⟨rfl,rfl⟩ aa
 | false =>
  have bV:[Iw false m][0]? = some (.iface 179 (ptr m)):=rfl
  refine gj (pK m b hb) ?_
  rintro _ _ ⟨rfl,rfl⟩
  refine gz ?_
  exact fin ⟨rfl,rfl⟩ aa
end
end Go.Proofs.YtcfioaeamfappaaGreatDoor
namespace Go.Sl
def Gm (at_ txg:Nat)(b:List UInt8)(kind:Int):Pt:=⟨0,at_,b.length,txg,kind,(iU kind b).1.a,(iU kind b).1.b,(iU kind b).1.c,(iU kind b).1.d⟩
theorem Tw {pr:Bool}{ls:List (Option Lv)}{at_:Nat}{b:List UInt8}(hb:1<=b.length/\b.length<=1024)(hl:ls.length<=5)(hp:pr=true->3<=ls.length):(sS pr ls at_ b).length<=40:=by
 cases pr with
 | true =>
  have h1:=mD (hp rfl) hb
  have h2:=cR (CV ls at_ b) (dG ls.length b.length)
  simp only [sS,if_true];omega
 | false =>
  have h2:=cR (CI ls at_ hb.2) ls.length
  simp only [sS];simp;omega
end Go.Sl
namespace Go.Proofs.YtcfioaeamfappaaGreatDoor
open Go.Sl
set_option maxRecDepth 10000
set_option maxHeartbeats 4000000
section
variable (T:TypeId)(fr:Nat×Nat)(p:Nat)(qs:List Nat)(t pool:Nat)(tp:Tp)(pr:Bool)(n:Nat)(ls:List (Option Lv))(no:Nat)(V:Chunk)(hV:jd t pool tp pr n ls no V)(ok:dE tp pr n ls.length)(R:Rk)(C:Chunk)(hC:br p qs R C)(ho:dI qs R n ls)(hall:∀x∈ls,x≠none)
include hV ok hC ho hall
theorem OA (at_ txg:Nat)(b:List UInt8)(k:Nat)(hk:b.length=k)(hb:1<=k/\k<=1024)(kind:Int)(Ff:kind=1\/kind=2)(hf:at_+aN pr ls.length k<=bD pr ls.length n)(ht:1<=txg/\txg<=281474976710656)(O:Chunk)(v:Value)(hO:Rd O 1 v k (ak b))(hw:R.ws.length+40<=900000000000) :
  Ct 264 [ptr t,.int .i64 0,.int .i64 at_,v,.int .i64 kind,.int .u64 txg] [gK T fr,C,V,O] fun u Bs=>∃C',u = .tuple #[(if (R.run (sS pr ls at_ b)).off then ah else Gm at_ txg b kind).agg,.int .i64 (if (R.run (sS pr ls at_ b)).off then 5 else 0)]/\br p qs (R.run (sS pr ls at_ b)) C'/\Bs=[gK T fr,C',V,O]:=by
 have hh:=zS t pool tp pr n ls no V hV
 have hs:=zy T fr O v b k hk hO oZ kind
 obtain ⟨j2,cv,rfl⟩:=hO.slice
 have xP:(iU kind b).2=0:=BZ.2 Ff
 rw [xP] at hs
 obtain ⟨pW,hpW⟩:∃q,q=Gm at_ txg b kind:=⟨_,rfl⟩
 have hpa:pW.agg = .agg #[.int .i64 0,.int .i64 at_,.int .i64 k,.int .u64 txg,.int .i64 kind,.int .u64 (iU kind b).1.a,.int .u64 (iU kind b).1.b,.int .u64 (iU kind b).1.c,.int .u64 (iU kind b).1.d]:=by rw [hpW,<-hk];rfl
 rw [<-hpW]
 obtain ⟨sm,AY⟩:∃s,s=(iU kind b).1:=⟨_,rfl⟩
 rw [<-AY] at hs hpa
 refine st Tryz.func264 fun w0 => ?_
 refine ga ?_;intro RC
 refine gc hh ?_
 rintro _ _ ⟨rfl,rfl⟩
 refine gc hs ?_
 rintro _ _ ⟨rfl,rfl⟩
 obtain ⟨m,M,fU,cT,DT,dP,cI,DI,jS,cL,DL,ov,cl,Dl,vD,DD,L,hT,hI,wU,hl,hM,hL,rfl⟩:=hV
 have Oz:=hI.rd
 obtain ⟨gI,oI,rfl⟩:=Oz.addr oZ
 have hn:=ok.hn
 have j4:=ok.hw
 refine gs ?_
 refine ga ?_;intro b14
 cases pr with
 | true =>
  have bV:[Iw true m][0]? = some (.iface 175 (ptr m)):=rfl
  have h3:=ok.hp rfl
  have nF:=Oj p qs m n ls _ hn ⟨h3,j4.2⟩ R C M L hC hM hL ho hall at_ txg b k hk hb hf ht O _ hO hw
  have hd:sS true ls at_ b=upto (nH ls at_ b) (dG ls.length k):=by rw [sS,if_pos rfl,hk]
  rw [<-hd] at nF
  refine gj nF ?_
  rintro _ _ ⟨C',rfl,bA,rfl⟩
  cases dN:(R.run (sS true ls at_ b)).off with
  | true =>
   refine gz ?_
   exact fin ⟨C',rfl,bA,rfl⟩ aa
  | false =>
   refine gz ?_
   exact fin ⟨C',by rw [if_neg (by simp),if_neg (by simp),hpa],bA,rfl⟩ aa
 | false =>
  have bV:[Iw false m][0]? = some (.iface 179 (ptr m)):=rfl
  have hz:bD false ls.length n=n - 292:=rfl
  have Ic:aN false ls.length k=aD k:=rfl
  rw [hz,Ic] at hf
  have nF:=Oe p qs m n ls _ _ hn j4.2 R C M L hC hM hL ho hall j4.1 at_ txg b k hk hb oZ ht O _ hO hw
  have hd:sS false ls at_ b=upto (nG ls at_ b) ls.length:=by rw [sS,if_neg (by simp)]
  rw [<-hd] at nF
  refine gj nF ?_
  rintro _ _ ⟨C',rfl,bA,rfl⟩
  cases dN:(R.run (sS false ls at_ b)).off with
  | true =>
   refine gz ?_
   exact fin ⟨C',rfl,bA,rfl⟩ aa
  | false =>
   refine gz ?_
   exact fin ⟨C',by rw [if_neg (by simp),if_neg (by simp),hpa],bA,rfl⟩ aa
omit hC ho hall ok in
theorem YJ (x:Pt)(hx:x.dY)(h0:x.top=0):Ct 195 [ptr t,x.agg] [V] fun u Bs=>u = .bool true/\Bs=[V]:=by
 have hh:=zS t pool tp pr n ls no V hV
 have OB:=kA x (by unfold fy;rw [if_pos hx];simp)
 obtain ⟨h1,h2,h3,h4,h5,h6,h7,h8,h9⟩:=hx
 obtain ⟨tp',at_,fB,bi,kd,a,b,c,d⟩:=x
 simp only at *
 subst h0
 refine st Tryz.func195 fun w0 => ?_
 refine ga ?_;intro b3
 refine gg ?_ ?_ <;> intro hz
 ·refine gc OB ?_
  rintro _ _ ⟨rfl,rfl⟩
  refine gc hh ?_
  rintro _ _ ⟨rfl,rfl⟩
  refine gz ?_
  exact fin ⟨rfl,rfl⟩ aa
 ·simp at hz;omega
theorem Tx (bW:R.off=false)(x:Pt)(hx:x.dY)(h0:x.top=0)(at_:Nat)(gh:x.at_=at_)(b:List UInt8)(k:Nat)(hk:b.length=k)(hxk:x.bytes=k)(hf:at_+aN pr ls.length k<=bD pr ls.length n)(Cj:sM x.kind ⟨x.a,x.b,x.c,x.d⟩ b=true)(hh:vg pr R ls at_ b) :
  Ct 134 [ptr t,x.agg] [gK T fr,C,V] fun u Bs=>∃ad O,u = .tuple #[.slice ad k k,.int .i64 0]/\Rd O 1 (.slice ad k k) k (ak b)/\Bs=[O,gK T fr,C,V]:=by
 have hmy:=YJ t pool tp pr n ls no V hV x hx h0
 obtain ⟨h1,h2,h3,h4,h5,h6,h7,h8,h9⟩:=hx
 obtain ⟨tp',at',fB,bi,kd,a,b',c,d⟩:=x
 simp only at *
 subst h0;subst gh;subst hxk
 obtain ⟨kn,rfl,Dc⟩:∃n:Nat,kd=n/\(n=1\/n=2):=h9.elim (fun h=>⟨1,h,.inl rfl⟩) (fun h=>⟨2,h,.inr rfl⟩)
 refine st Tryz.func134 fun w0 => ?_
 refine ga ?_;intro b3
 refine gc hmy ?_
 rintro _ _ ⟨rfl,rfl⟩
 obtain ⟨m,M,fU,cT,DT,dP,cI,DI,jS,cL,DL,ov,cl,Dl,vD,DD,L,hT,hI,wU,hl,hM,hL,rfl⟩:=hV
 have Oz:=hI.rd
 obtain ⟨gI,oI,rfl⟩:=Oz.addr oZ
 have hn:=ok.hn
 have j4:=ok.hw
 refine gs ?_
 refine gd [0,4,8,12,16,20,24,28,32,36,40,44,48,52,56,60,67,70,74,78,82] ?_
 cases pr with
 | true =>
  have bV:[Iw true m][0]? = some (.iface 175 (ptr m)):=rfl
  have h3w:=ok.hp rfl
  rw [vg,if_pos rfl] at hh
  have oM:=Tn T fr p qs m n ls _ hn ⟨h3w,j4.2⟩ R C M L hC hM hL ho hall bW at_ b k kn ⟨a,b',c,d⟩ hk oZ hf Dc Cj hh
  refine gj oM ?_
  rintro _ _ ⟨ad,O,rfl,hO,rfl⟩
  refine gz ?_
  exact fin ⟨ad,O,rfl,hO,rfl⟩ aa
 | false =>
  have bV:[Iw false m][0]? = some (.iface 179 (ptr m)):=rfl
  have hz:bD false ls.length n=n - 292:=rfl
  have Ic:aN false ls.length k=aD k:=rfl
  rw [hz,Ic] at hf
  rw [vg,if_neg (by simp),hk] at hh
  have hex:∃x,some x∈ls:=by
   obtain ⟨ox,hx⟩:=eB (l:=ls) (i:=0) oZ
   rcases ox with _ | x
   ·exact absurd rfl (hall _ (List.mem_of_getElem? hx))
   ·exact ⟨x,List.mem_of_getElem? hx⟩
  have oM:=To T fr p qs m n ls _ _ hn j4.2 R C M L hC hM hL ho bW at_ b k kn ⟨a,b',c,d⟩ hk oZ oZ Dc Cj hex hh
  refine gj oM ?_
  rintro _ _ ⟨ad,O,rfl,hO,rfl⟩
  refine gz ?_
  exact fin ⟨ad,O,rfl,hO,rfl⟩ aa
theorem pQ:Ct 109 [ptr t] [C,V] fun u Bs=>∃C',u = .int .i64 (if (R.run (iF ls)).off then 5 else 0)/\br p qs (R.run (iF ls)) C'/\Bs=[C',V]:=by
 obtain ⟨m,M,fU,cT,DT,dP,cI,DI,jS,cL,DL,ov,cl,Dl,vD,DD,L,hT,hI,wU,hl,hM,hL,rfl⟩:=hV
 have Oz:=hI.rd
 obtain ⟨gI,oI,rfl⟩:=Oz.addr oZ
 have hn:=ok.hn
 have j4:=ok.hw
 refine st Tryz.func109 fun w0 => ?_
 refine gs ?_
 refine gl [9,10] (fun ((j,_):Nat×Chunk)=>[(11,.int .i64 j)]) (fun (_,C)=>[C]) (fun (j,C)=>j<=1/\(j=0->br p qs R C)/\(j=1->br p qs (R.run (iF ls)) C/\(R.run (iF ls)).off=false)) (fun (j,_)=>1 - j) (0,C) ⟨by omega,fun _=>hC,fun h=>absurd h oZ⟩ ?_
 rintro ⟨j,C⟩ ⟨hj,SX,qZ⟩
 refine gi ?_ ?_ <;> intro bh
 ·obtain rfl:j=0:=by omega
  have hC:=SX rfl
  cases pr with
  | true =>
   have bV:[Iw true m][0]? = some (.iface 175 (ptr m)):=rfl
   have h3w:=ok.hp rfl
   refine gj (Oo p qs m n ls _ hn ⟨h3w,j4.2⟩ R C M L hC hM hL ho hall) ?_
   rintro _ _ ⟨C',rfl,bA,rfl⟩
   change br p qs (R.run (iF ls)) C' at bA
   cases dN:(R.run (iF ls)).off with
   | true =>
    have Gn:(R.run (upto (ni ls) ls.length)).off=true:=dN
    rw [Gn]
    refine gz ?_
    exact fin ⟨C',rfl,bA,rfl⟩ aa
   | false =>
    have Gn:(R.run (upto (ni ls) ls.length)).off=false:=dN
    rw [Gn]
    refine gn ?_
    exact ⟨(1,C'),⟨by omega,(fun h=>by cases h),(fun _=>⟨bA,rfl⟩)⟩,by simp only;omega,aq,_,aa⟩
  | false =>
   have bV:[Iw false m][0]? = some (.iface 179 (ptr m)):=rfl
   have hex:∃x,some x∈ls:=by
    obtain ⟨ox,hx⟩:=eB (l:=ls) (i:=0) oZ
    rcases ox with _ | x
    ·exact absurd rfl (hall _ (List.mem_of_getElem? hx))
    ·exact ⟨x,List.mem_of_getElem? hx⟩
   refine gj (Ot p qs m n ls _ _ hn j4.2 R C M L hC hM hL ho hex) ?_
   rintro _ _ ⟨C',rfl,bA,rfl⟩
   change br p qs (R.run (iF ls)) C' at bA
   cases dN:(R.run (iF ls)).off with
   | true =>
    have Gn:(R.run (upto (ni ls) ls.length)).off=true:=dN
    rw [Gn]
    refine gz ?_
    exact fin ⟨C',rfl,bA,rfl⟩ aa
   | false =>
    have Gn:(R.run (upto (ni ls) ls.length)).off=false:=dN
    rw [Gn]
    refine gn ?_
    exact ⟨(1,C'),⟨by omega,(fun h=>by cases h),(fun _=>⟨bA,rfl⟩)⟩,by simp only;omega,aq,_,aa⟩
 ·obtain rfl:j=1:=by omega
  obtain ⟨bA,dN⟩:=qZ rfl
  refine gz ?_
  exact fin ⟨C,by rw [dN];rfl,bA,rfl⟩ aa
end
end Go.Proofs.YtcfioaeamfappaaGreatDoor
namespace Go.Sl
structure Sp where
 at_:Int
 many:Int
deriving DecidableEq
def Sp.lay (x:Sp):List Value:=[.int .i64 x.at_,.int .i64 x.many]
abbrev Sp.agg (x:Sp):Value:=.agg #[.int .i64 x.at_,.int .i64 x.many]
def Sp.fin (x:Sp):Int:=x.at_+x.many
def Sp.may (x:Sp):Bool:=decide (0<=x.at_/\1<=x.many/\x.at_<=1099511627776/\x.many<=1099511627776 - x.at_)
theorem Sp.aj (x:Sp):x.lay.length=2:=rfl
def Sp.common (a b:Sp):Int:=if min a.fin b.fin<max a.at_ b.at_ then 0 else min a.fin b.fin - max a.at_ b.at_
structure zV (l:List Sp):Prop where
 may:∀x∈l,x.may=true
 yh:l.Pairwise (fun a b=>a.fin<b.at_)
 len:l.length<=4096
theorem Sp.ax {x:Sp}:x.may=true↔0<=x.at_/\1<=x.many/\x.at_<=1099511627776/\x.many<=1099511627776 - x.at_:=by simp [Sp.may]
theorem zV.at {l:List Sp}(h:zV l){i:Nat}(hi:i<l.length):0<=l[i].at_/\1<=l[i].many/\l[i].at_<=1099511627776/\l[i].many<=1099511627776 - l[i].at_:=Sp.ax.1 (h.may _ (List.getElem_mem hi))
theorem zV.lt {l:List Sp}(h:zV l){i j:Nat}(E0:i<j)(hj:j<l.length):l[i].fin<l[j].at_:=List.pairwise_iff_getElem.1 h.yh i j oZ hj E0
theorem zV.zW {l:List Sp}(h:zV l){i j:Nat}(E0:i<=j)(hj:j<l.length):l[i].fin<=l[j].fin:=by
 rcases Nat.eq_or_lt_of_le E0 with rfl | E0
 ·exact Int.le_refl _
 ·have h1:=h.lt E0 hj
  have h2:=h.at hj
  simp only [Sp.fin] at *;omega
def Cut (l:List Sp)(n:Int)(k:Nat):Prop:=k<=l.length/\(∀i (h:i<l.length),i<k->l[i].fin<=n)/\∀i (h:i<l.length),k<=i->n<l[i].fin
structure Gd (l:List Sp):Prop where
 may:∀x∈l,x.may=true
 yh:l.Pairwise (fun a b=>a.fin<b.at_)
theorem zV.gd {l:List Sp}(h:zV l):Gd l:=⟨h.may,h.yh⟩
theorem Gd.LW {l:List Sp}(h:Gd l)(hl:l.length<=4096):zV l:=⟨h.may,h.yh,hl⟩
theorem zX:Gd []:=⟨by simp,by simp⟩
theorem bZ {y:Sp}{r:List Sp}:Gd (y :: r)↔y.may=true/\(∀z∈r,y.fin<z.at_)/\Gd r:=by
 constructor
 ·intro h
  have h2:=List.pairwise_cons.1 h.yh
  exact ⟨h.may _ (List.mem_cons_self ..),h2.1,fun x hx=>h.may x (List.mem_cons_of_mem _ hx),h2.2⟩
 ·rintro ⟨h1,h2,h3⟩
  refine ⟨fun x hx => ?_,List.pairwise_cons.2 ⟨h2,h3.yh⟩⟩
  rcases List.mem_cons.1 hx with rfl | hx
  ·exact h1
  ·exact h3.may x hx
def kJ:List Sp->Sp->Int
 | [],_=>0
 | y :: r,x=>y.common x+kJ r x
theorem fC (y x:Sp):y.common x=max 0 (min y.fin x.fin - max y.at_ x.at_):=by unfold Sp.common;split <;> omega
theorem nV (y x:Sp):0<=y.common x:=by rw [fC];omega
theorem sq (l:List Sp)(x:Sp):0<=kJ l x:=by
 induction l with
 | nil=>exact Int.le_refl _
 | cons y r ih=>have:=nV y x;simp only [kJ];omega
theorem aG {α:Type}(l:List α){i:Nat}(hi:i<l.length):l.take (i+1)=l.take i++[l[i]]:=by rw [List.take_append_getElem hi]
theorem Ty {l:List Sp}(h:Gd l)(x:Sp):∀(b:Int),(∀y∈l,b<=y.at_)->kJ l x<=max 0 (x.fin - b):=by
 induction l with
 | nil=>intro b _;simp only [kJ];omega
 | cons y r ih =>
  intro b hb
  obtain ⟨h1,h2,h3⟩:=bZ.1 h
  have h4:=ih h3 y.fin (fun z hz=>Int.le_of_lt (h2 z hz))
  have h5:=hb y (List.mem_cons_self ..)
  have h6:=Sp.ax.1 h1
  simp only [kJ,fC]
  simp only [Sp.fin] at *
  omega
theorem zY {l:List Sp}(h:Gd l){x:Sp}(hx:x.may=true):kJ l x=x.many↔∃y∈l,y.at_<=x.at_/\x.fin<=y.fin:=by
 have yi:=Sp.ax.1 hx
 induction l with
 | nil =>
  simp only [kJ]
  constructor
  ·intro h;omega
  ·rintro ⟨y,hy,_⟩;cases hy
 | cons y r ih =>
  obtain ⟨h1,h2,h3⟩:=bZ.1 h
  have h6:=Sp.ax.1 h1
  have hb:=Ty h3 x (y.fin+1) (fun z hz=>by have:=h2 z hz;omega)
  have hn:=sq r x
  have ih:kJ r x=x.many↔∃y∈r,y.at_<=x.at_/\x.fin<=y.fin:=ih h3
  simp only [List.mem_cons,exists_eq_or_imp,kJ]
  by_cases c1:y.fin<=x.at_
  ·have e1:y.common x=0:=by rw [fC];simp only [Sp.fin] at *;omega
   rw [e1,Int.zero_add];rw [ih]
   constructor
   ·exact .inr
   ·rintro (⟨_,h⟩ | h)
    ·simp only [Sp.fin] at *;omega
    ·exact h
  ·have e2:∀z∈r,¬(z.at_<=x.at_/\x.fin<=z.fin):=fun z hz=>by have:=h2 z hz;omega
   by_cases c2:y.at_<=x.at_/\x.fin<=y.fin
   ·have e1:y.common x=x.many:=by rw [fC];simp only [Sp.fin] at *;omega
    have e3:kJ r x=0:=by clear ih e1;simp only [Sp.fin] at *;omega
    rw [e1,e3,Int.add_zero]
    exact ⟨fun _=>.inl c2,fun _=>rfl⟩
   ·have e1:y.common x+kJ r x<x.many:=by
     clear ih;rw [fC];simp only [Sp.fin] at *;omega
    constructor
    ·intro h;omega
    ·rintro (h | ⟨z,hz,h⟩)
     ·exact absurd h c2
     ·exact absurd h (e2 z hz)
theorem nj {l:List Sp}(h:Gd l){x:Sp}(hx:x.may=true):0<kJ l x↔∃y∈l,y.at_<x.fin/\x.at_<y.fin:=by
 have yi:=Sp.ax.1 hx
 induction l with
 | nil=>simp [kJ]
 | cons y r ih =>
  obtain ⟨h1,h2,h3⟩:=bZ.1 h
  have h6:=Sp.ax.1 h1
  have hn:=sq r x
  have hc:=nV y x
  have ih:0<kJ r x↔∃y∈r,y.at_<x.fin/\x.at_<y.fin:=ih h3
  simp only [List.mem_cons,exists_eq_or_imp,kJ]
  have e1:0<y.common x↔y.at_<x.fin/\x.at_<y.fin:=by
   rw [fC];simp only [Sp.fin] at *;omega
  rw [<-ih,<-e1]
  clear ih e1
  omega
def eb (l:List Sp)(x:Sp):Bool:=x.may&&decide (0<kJ l x)
def lW (l:List Sp)(x:Sp):Bool:=x.may&&decide (kJ l x=x.many)
theorem tu {l:List Sp}(h:Gd l){x:Sp}(hx:x.may=true){k:Nat}(hk:Cut l x.at_ k):lW l x=true↔∃h:k<l.length,l[k].at_<=x.at_/\x.fin<=l[k].fin:=by
 simp only [lW,hx,Bool.true_and,decide_eq_true_eq,zY h hx]
 have yi:=Sp.ax.1 hx
 constructor
 ·rintro ⟨y,hy,h1,h2⟩
  obtain ⟨j,hj,rfl⟩:=List.getElem_of_mem hy
  rcases Nat.lt_trichotomy j k with c | rfl | c
  ·have:=hk.2.1 j hj c
   simp only [Sp.fin] at *;omega
  ·exact ⟨hj,h1,h2⟩
  ·have h3:=List.pairwise_iff_getElem.1 h.yh k j oZ hj c
   have h4:=hk.2.2 k oZ (Nat.le_refl _)
   simp only [Sp.fin] at *;omega
 ·rintro ⟨hk,h1,h2⟩
  exact ⟨_,List.getElem_mem hk,h1,h2⟩
theorem ry {l:List Sp}(h:Gd l){x:Sp}(hx:x.may=true){k:Nat}(hk:Cut l x.at_ k):eb l x=true↔∃h:k<l.length,l[k].at_<x.fin:=by
 simp only [eb,hx,Bool.true_and,decide_eq_true_eq,nj h hx]
 have yi:=Sp.ax.1 hx
 constructor
 ·rintro ⟨y,hy,h1,h2⟩
  obtain ⟨j,hj,rfl⟩:=List.getElem_of_mem hy
  rcases Nat.lt_trichotomy j k with c | rfl | c
  ·have:=hk.2.1 j hj c
   simp only [Sp.fin] at *;omega
  ·exact ⟨hj,h1⟩
  ·have h3:=List.pairwise_iff_getElem.1 h.yh k j oZ hj c
   have h4:=Sp.ax.1 (h.may _ (List.getElem_mem (show k<l.length by omega)))
   refine ⟨by omega, ?_⟩
   simp only [Sp.fin] at *;omega
 ·rintro ⟨hj,h1⟩
  exact ⟨_,List.getElem_mem hj,h1,hk.2.2 k hj (Nat.le_refl _)⟩
def bM:List Sp->Sp->Bool->List Sp
 | [],x,d=>if d then [] else [x]
 | y :: r,x,d =>
  if y.fin=x.at_ then bM r ⟨y.at_,y.many+x.many⟩ d
  else if x.fin=y.at_ then bM r ⟨x.at_,x.many+y.many⟩ d
  else if x.at_<y.at_/\d=false then x :: y :: bM r x true
  else y :: bM r x d
theorem vh {l:List Sp}(h:Gd l){x:Sp}(hx:x.may=true)(hl:∀y∈l,x.fin<y.at_):bM l x true=l:=by
 have yi:=Sp.ax.1 hx
 induction l with
 | nil=>rfl
 | cons y r ih =>
  obtain ⟨h1,h2,h3⟩:=bZ.1 h
  have h4:=hl y (List.mem_cons_self ..)
  have h6:=Sp.ax.1 h1
  unfold bM
  rw [if_neg (by simp only [Sp.fin] at *;omega),if_neg oZ,if_neg (by simp),ih h3 (fun z hz=>hl z (List.mem_cons_of_mem _ hz))]
theorem De {l:List Sp}(h:Gd l){x:Sp}(hx:x.may=true)(hl:∀y∈l,x.fin<y.at_):bM l x false=x :: l:=by
 have yi:=Sp.ax.1 hx
 cases l with
 | nil=>rfl
 | cons y r =>
  obtain ⟨h1,h2,h3⟩:=bZ.1 h
  have h4:=hl y (List.mem_cons_self ..)
  have h6:=Sp.ax.1 h1
  unfold bM
  rw [if_neg (by simp only [Sp.fin] at *;omega),if_neg oZ,if_pos ⟨by simp only [Sp.fin] at *;omega,rfl⟩,vh h3 hx (fun z hz=>hl z (List.mem_cons_of_mem _ hz))]
theorem vm {p l:List Sp}{x:Sp}(hx:x.may=true)(hp:∀y∈p,y.may=true/\y.fin<x.at_):bM (p++l) x false=p++bM l x false:=by
 have yi:=Sp.ax.1 hx
 induction p with
 | nil=>rfl
 | cons y r ih =>
  obtain ⟨h1,h2⟩:=hp y (List.mem_cons_self ..)
  have h6:=Sp.ax.1 h1
  rw [List.cons_append,List.cons_append,bM]
  rw [if_neg oZ,if_neg (by simp only [Sp.fin] at *;omega),if_neg (by simp only [Sp.fin] at *;omega),ih (fun z hz=>hp z (List.mem_cons_of_mem _ hz))]
def Sp.has (x:Sp)(n:Int):Prop:=x.at_<=n/\n<x.fin
def lX (l:List Sp)(n:Int):Prop:=∃y∈l,y.has n
theorem mem_cons {y:Sp}{r:List Sp}{n:Int}:lX (y :: r) n↔y.has n\/lX r n:=by simp [lX]
def cw:List Sp->Int
 | []=>0
 | y :: r=>y.many+cw r
theorem OC {l:List Sp}(h:Gd l):∀(b:Int),(∀y∈l,b<=y.at_)->0<=cw l/\cw l<=max 0 (1099511627776 - b):=by
 induction l with
 | nil=>intro b _;simp only [cw];omega
 | cons y r ih =>
  intro b hb
  obtain ⟨h1,h2,h3⟩:=bZ.1 h
  have h4:=ih h3 y.fin (fun z hz=>Int.le_of_lt (h2 z hz))
  have h5:=hb y (List.mem_cons_self ..)
  have h6:=Sp.ax.1 h1
  simp only [cw]
  simp only [Sp.fin] at *
  omega
theorem Gd.take {l:List Sp}(h:Gd l)(i:Nat):Gd (l.take i):=⟨fun x hx=>h.may x (List.mem_of_mem_take hx),h.yh.sublist (List.take_sublist ..)⟩
theorem Gd.drop {l:List Sp}(h:Gd l)(i:Nat):Gd (l.drop i):=⟨fun x hx=>h.may x (List.mem_of_mem_drop hx),h.yh.sublist (List.drop_sublist ..)⟩
theorem tv {l:List Sp}(h:Gd l):0<=cw l/\cw l<=1099511627776:=by
 have:=OC h 0 (fun y hy=>(Sp.ax.1 (h.may y hy)).1)
 omega
structure abc (l:List Sp)(x:Sp)(m:List Sp):Prop where
 gd:Gd m
 mem:∀n,Sl.lX m n↔Sl.lX l n\/x.has n
 many:cw m=cw l+x.many
 low:∀b,b<x.at_->(∀y∈l,b<y.at_)->∀z∈m,b<z.at_
 len:m.length<=l.length+1
theorem vp {l:List Sp}(h:Gd l):∀ {x:Sp},x.may=true->(∀y∈l,y.fin<=x.at_\/x.fin<=y.at_)->abc l x (bM l x false):=by
 induction l with
 | nil=>intro x hx _;exact ⟨bZ.2 ⟨hx,by simp,zX⟩,fun n=>by simp [bM,mem_cons,lX],by simp [bM,cw],fun b h1 _ z hz=>by simp [bM] at hz;subst hz;exact h1,by simp [bM]⟩
 | cons y r ih =>
  intro x hx hd
  obtain ⟨h1,h2,h3⟩:=bZ.1 h
  have h6:=Sp.ax.1 h1
  have yi:=Sp.ax.1 hx
  have hdy:=hd y (List.mem_cons_self ..)
  have OD:∀z∈r,z.fin<=x.at_\/x.fin<=z.at_:=fun z hz=>hd z (List.mem_cons_of_mem _ hz)
  have hzm:∀z∈r,z.at_<z.fin:=fun z hz=>by have:=Sp.ax.1 (h3.may z hz);simp only [Sp.fin];omega
  unfold bM
  by_cases c1:y.fin=x.at_
  ·rw [if_pos c1]
   have I:=ih h3 (x:=⟨y.at_,y.many+x.many⟩) (by rw [Sp.ax];simp only [Sp.fin] at *;omega) (fun z hz=>by
    have:=OD z hz;have:=hzm z hz;have:=h2 z hz;simp only [Sp.fin] at *;omega)
   refine ⟨I.gd,fun n => ?_, ?_,fun b hb hl=>I.low b (hl y (List.mem_cons_self ..)) (fun z hz=>hl z (List.mem_cons_of_mem _ hz)), ?_⟩
   ·rw [I.mem,mem_cons];clear I;simp only [Sp.has,Sp.fin] at *;by_cases q:lX r n <;> simp only [q,or_true,or_false,true_or] <;> grind
   ·rw [I.many];simp only [cw];omega
   ·have:=I.len;simp only [List.length_cons];omega
  rw [if_neg c1]
  by_cases c2:x.fin=y.at_
  ·rw [if_pos c2]
   have I:=ih h3 (x:=⟨x.at_,x.many+y.many⟩) (by rw [Sp.ax];simp only [Sp.fin] at *;omega) (fun z hz=>by
    have:=OD z hz;have:=hzm z hz;have:=h2 z hz;simp only [Sp.fin] at *;omega)
   refine ⟨I.gd,fun n => ?_, ?_,fun b hb hl=>I.low b hb (fun z hz=>hl z (List.mem_cons_of_mem _ hz)), ?_⟩
   ·rw [I.mem,mem_cons];clear I;simp only [Sp.has,Sp.fin] at *;by_cases q:lX r n <;> simp only [q,or_true,or_false,true_or] <;> grind
   ·rw [I.many];simp only [cw];omega
   ·have:=I.len;simp only [List.length_cons];omega
  rw [if_neg c2]
  by_cases c3:x.at_<y.at_
  ·have hg:x.fin<y.at_:=by simp only [Sp.fin] at *;omega
   rw [if_pos ⟨c3,rfl⟩,vh h3 hx (fun z hz=>by have:=h2 z hz;simp only [Sp.fin] at *;omega)]
   refine ⟨bZ.2 ⟨hx,fun z hz => ?_,h⟩,fun n=>by rw [mem_cons,Or.comm],by simp only [cw];omega,fun b hb hl z hz => ?_,by simp⟩
   ·rcases List.mem_cons.1 hz with rfl | hz
    ·exact hg
    ·have:=h2 z hz;simp only [Sp.fin] at *;omega
   ·rcases List.mem_cons.1 hz with rfl | hz
    ·exact hb
    ·exact hl z hz
  ·rw [if_neg (by simp [c3])]
   have I:=ih h3 hx OD
   have hyx:y.fin<x.at_:=by simp only [Sp.fin] at *;omega
   refine ⟨bZ.2 ⟨h1,I.low y.fin hyx h2,I.gd⟩,fun n => ?_,by simp only [cw,I.many];omega,fun b hb hl z hz => ?_,by simp [I.len]⟩
   ·rw [mem_cons,I.mem,mem_cons,or_assoc]
   ·rcases List.mem_cons.1 hz with rfl | hz
    ·exact hl _ (List.mem_cons_self ..)
    ·exact I.low b hb (fun z hz=>hl z (List.mem_cons_of_mem _ hz)) z hz
theorem vt {l:List Sp}(h:Gd l){x:Sp}(hx:x.may=true)(hm:eb l x=false):∀y∈l,y.fin<=x.at_\/x.fin<=y.at_:=by
 intro y hy
 have h1:¬(0<kJ l x):=by simpa [eb,hx] using hm
 rw [nj h hx] at h1
 by_cases c:y.fin<=x.at_\/x.fin<=y.at_
 ·exact c
 ·exact absurd ⟨y,hy,by omega,by omega⟩ h1
def ew (x y:Sp):List Sp :=
 if x.common y=0 then [y] else (if y.at_<x.at_ then [⟨y.at_,x.at_ - y.at_⟩] else [])++(if x.fin<y.fin then [⟨x.fin,y.fin - x.fin⟩] else [])
def lA (l:List Sp)(x:Sp):List Sp:=l.flatMap (ew x)
theorem vu {x y:Sp}(hx:x.may=true)(hy:y.may=true)(h:y.fin<=x.at_\/x.fin<=y.at_):ew x y=[y]:=by
 have hx:=Sp.ax.1 hx
 have hy:=Sp.ax.1 hy
 unfold ew
 rw [if_pos (by rw [fC];simp only [Sp.fin] at *;omega)]
theorem vv {l:List Sp}(h:Gd l){x:Sp}(hx:x.may=true)(hl:∀y∈l,y.fin<=x.at_\/x.fin<=y.at_):lA l x=l:=by
 induction l with
 | nil=>rfl
 | cons y r ih =>
  obtain ⟨h1,h2,h3⟩:=bZ.1 h
  have:=ih h3 (fun z hz=>hl z (List.mem_cons_of_mem _ hz))
  unfold lA at *
  rw [List.flatMap_cons,this,vu hx h1 (hl y (List.mem_cons_self ..))];rfl
theorem sr (l m:List Sp)(x:Sp):lA (l++m) x=lA l x++lA m x:=by simp [lA]
theorem Tz {l:List Sp}(h:Gd l){x:Sp}(hx:x.may=true){k:Nat}(hk:Cut l x.at_ k)(hl:k<l.length)(h1:l[k].at_<=x.at_)(h2:x.fin<=l[k].fin):lA l x=l.take k++ew x l[k]++l.drop (k+1):=by
 have yi:=Sp.ax.1 hx
 have e:l=l.take k++([l[k]]++l.drop (k+1)):=by rw [List.singleton_append,<-List.drop_eq_getElem_cons hl,List.take_append_drop]
 conv=>lhs;rw [e]
 rw [sr,sr,vv (h.take k) hx,vv (h.drop _) hx]
 ·simp [lA]
 ·intro y hy
  obtain ⟨j,hj,rfl⟩:=List.getElem_of_mem hy
  rw [List.length_drop] at hj
  rw [List.getElem_drop]
  have:=List.pairwise_iff_getElem.1 h.yh k (k+1+j) hl oZ oZ
  omega
 ·intro y hy
  obtain ⟨j,hj,rfl⟩:=List.getElem_of_mem hy
  rw [List.length_take] at hj
  rw [List.getElem_take]
  exact .inl (hk.2.1 j oZ oZ)
structure adn (l:List Sp)(x:Sp)(m:List Sp):Prop where
 gd:Gd m
 mem:∀n,Sl.lX m n↔Sl.lX l n/\¬x.has n
 many:cw m=cw l - x.many
 low:∀b,(∀y∈l,b<y.at_)->∀z∈m,b<z.at_
 len:m.length<=l.length+1
theorem yj {l:List Sp}(h:Gd l){x:Sp}(hx:x.may=true)(hh:∃y∈l,y.at_<=x.at_/\x.fin<=y.fin):adn l x (lA l x):=by
 have yi:=Sp.ax.1 hx
 induction l with
 | nil=>obtain ⟨y,hy,_⟩:=hh;cases hy
 | cons y r ih =>
  obtain ⟨h1,h2,h3⟩:=bZ.1 h
  have h6:=Sp.ax.1 h1
  have hu:lA (y :: r) x=ew x y++lA r x:=by simp [lA]
  rw [hu]
  by_cases c:y.at_<=x.at_/\x.fin<=y.fin
  ·clear hh ih
   have adp:∀z∈r,z.fin<=x.at_\/x.fin<=z.at_:=fun z hz=>by have:=h2 z hz;omega
   have Wh:∀n,lX r n->y.fin<n:=fun n ⟨z,hz,hzn⟩=>by have:=h2 z hz;simp only [Sp.has] at hzn;omega
   rw [vv h3 hx adp]
   unfold ew
   rw [if_neg (by rw [fC];simp only [Sp.fin] at *;omega)]
   by_cases d1:y.at_<x.at_ <;> by_cases d2:x.fin<y.fin <;> simp only [d1,d2,if_true,if_false,List.nil_append,List.append_nil,List.cons_append]
   ·refine ⟨bZ.2 ⟨by rw [Sp.ax];simp only [Sp.fin] at *;omega, ?_,bZ.2 ⟨by rw [Sp.ax];simp only [Sp.fin] at *;omega, ?_,h3⟩⟩,fun n => ?_, ?_, ?_,by simp⟩
    ·intro z hz
     rcases List.mem_cons.1 hz with rfl | hz
     ·simp only [Sp.fin] at *;omega
     ·have:=h2 z hz;simp only [Sp.fin] at *;omega
    ·intro z hz;have:=h2 z hz;simp only [Sp.fin] at *;omega
    ·have:=Wh n
     rw [mem_cons,mem_cons,mem_cons];simp only [Sp.has,Sp.fin] at *;grind
    ·simp only [cw,Sp.fin];omega
    ·intro b hb z hz
     have xd:=hb y (List.mem_cons_self ..)
     rcases List.mem_cons.1 hz with rfl | hz
     ·exact xd
     rcases List.mem_cons.1 hz with rfl | hz
     ·simp only [Sp.fin] at *;omega
     ·exact hb z (List.mem_cons_of_mem _ hz)
   ·refine ⟨bZ.2 ⟨by rw [Sp.ax];simp only [Sp.fin] at *;omega, ?_,h3⟩,fun n => ?_, ?_, ?_,by simp⟩
    ·intro z hz;have:=h2 z hz;simp only [Sp.fin] at *;omega
    ·have:=Wh n
     rw [mem_cons,mem_cons];simp only [Sp.has,Sp.fin] at *;grind
    ·simp only [cw,Sp.fin] at *;omega
    ·intro b hb z hz
     have xd:=hb y (List.mem_cons_self ..)
     rcases List.mem_cons.1 hz with rfl | hz
     ·exact xd
     ·exact hb z (List.mem_cons_of_mem _ hz)
   ·refine ⟨bZ.2 ⟨by rw [Sp.ax];simp only [Sp.fin] at *;omega, ?_,h3⟩,fun n => ?_, ?_, ?_,by simp⟩
    ·intro z hz;have:=h2 z hz;simp only [Sp.fin] at *;omega
    ·have:=Wh n
     rw [mem_cons,mem_cons];simp only [Sp.has,Sp.fin] at *;grind
    ·simp only [cw,Sp.fin] at *;omega
    ·intro b hb z hz
     have xd:=hb y (List.mem_cons_self ..)
     rcases List.mem_cons.1 hz with rfl | hz
     ·simp only [Sp.fin] at *;omega
     ·exact hb z (List.mem_cons_of_mem _ hz)
   ·refine ⟨h3,fun n => ?_, ?_,fun b hb z hz=>hb z (List.mem_cons_of_mem _ hz),by simp;omega⟩
    ·have:=Wh n
     rw [mem_cons];simp only [Sp.has,Sp.fin] at *;grind
    ·simp only [cw,Sp.fin] at *;omega
  ·have hr:∃z∈r,z.at_<=x.at_/\x.fin<=z.fin:=by
    obtain ⟨z,hz,hq⟩:=hh
    rcases List.mem_cons.1 hz with rfl | hz
    ·exact absurd hq c
    ·exact ⟨z,hz,hq⟩
   have I:=ih h3 hr
   have hyx:y.fin<x.at_:=by obtain ⟨z,hz,h,_⟩:=hr;have:=h2 z hz;omega
   rw [vu hx h1 (.inl oZ),List.singleton_append]
   refine ⟨bZ.2 ⟨h1,I.low y.fin h2,I.gd⟩,fun n => ?_,by simp only [cw,I.many];omega,fun b hb z hz => ?_,by simp [I.len]⟩
   ·rw [mem_cons,I.mem,mem_cons];simp only [Sp.has,Sp.fin] at *;grind
   ·rcases List.mem_cons.1 hz with rfl | hz
    ·exact hb _ (List.mem_cons_self ..)
    ·exact I.low b (fun z hz=>hb z (List.mem_cons_of_mem _ hz)) z hz
abbrev OE:Int:=90
abbrev Wi:Int:=2
def vx (l:List Sp)(x:Sp):Int:=if x.may && !eb l x then (if 4096<(bM l x false).length then Wi else 0) else OE
def Gp (l:List Sp)(x:Sp):List Sp:=if vx l x=0 then bM l x false else l
def xo (l:List Sp)(x:Sp):Int:=if lW l x then (if 4096<(lA l x).length then Wi else 0) else OE
def Gq (l:List Sp)(x:Sp):List Sp:=if xo l x=0 then lA l x else l
def iP:List Sp->Int->Int->Int×Bool
 | [],_,_=>(0,false)
 | y :: r,n,f=>if max y.at_ f<=y.fin/\n<=y.fin - max y.at_ f then (max y.at_ f,true) else iP r n f
def gG (l:List Sp)(n f:Int):Int×Bool:=if n<1\/f<0 then (0,false) else iP l n f
theorem zZ {l:List Sp}{x:Sp}(h:vx l x=0):x.may=true/\eb l x=false/\(bM l x false).length<=4096:=by
 unfold vx at h
 split at h
 ·rename_i c
  simp only [Bool.and_eq_true,Bool.not_eq_true'] at c
  split at h
  ·cases h
  ·exact ⟨c.1,c.2,by omega⟩
 ·cases h
theorem tw {l:List Sp}{x:Sp}(h:vx l x=0):Gp l x=bM l x false:=by simp [Gp,h]
theorem z6 {l:List Sp}{x:Sp}(h:xo l x=0):lW l x=true/\(lA l x).length<=4096:=by
 unfold xo at h
 split at h
 ·rename_i c
  split at h
  ·cases h
  ·exact ⟨c,by omega⟩
 ·cases h
theorem tz {l:List Sp}{x:Sp}(h:lW l x=true):x.may=true:=by simp only [lW,Bool.and_eq_true] at h;exact h.1
theorem vy {l:List Sp}(hl:Gd l){x:Sp}(h:lW l x=true):∃y∈l,y.at_<=x.at_/\x.fin<=y.fin:=by
 have hx:=tz h
 simp only [lW,hx,Bool.true_and,decide_eq_true_eq] at h
 exact (zY hl hx).1 h
theorem OF {l:List Sp}(hl:Gd l){x:Sp}(hx:x.may=true)(h:∃y∈l,y.at_<=x.at_/\x.fin<=y.fin):lW l x=true:=by
 simp only [lW,hx,Bool.true_and,decide_eq_true_eq]
 exact (zY hl hx).2 h
theorem tA {l:List Sp}{x:Sp}(h:xo l x=0):Gq l x=lA l x:=by simp [Gq,h]
theorem rz {l:List Sp}(h:Gd l){x:Sp}(c:vx l x=0):cw (Gp l x)=cw l+x.many:=by
 obtain ⟨h1,h2,h3⟩:=zZ c
 rw [tw c]
 exact (vp h h1 (vt h h1 h2)).many
theorem rA {l:List Sp}(h:Gd l){x:Sp}(c:xo l x=0):cw (Gq l x)=cw l - x.many:=by
 obtain ⟨h1,h3⟩:=z6 c
 rw [tA c]
 exact (yj h (tz h1) (vy h h1)).many
theorem Kg {l:List Sp}(h:Gd l){x:Sp}(hl:∀y∈l,y.fin<=x.at_\/x.fin<=y.at_):eb l x=false:=by
 cases hx:x.may with
 | false=>simp [eb,hx]
 | true =>
  cases hm:eb l x with
  | false=>rfl
  | true =>
   simp only [eb,hx,Bool.true_and,decide_eq_true_eq,nj h hx] at hm
   obtain ⟨y,hy,h1,h2⟩:=hm
   have:=hl y hy
   omega
theorem z7 {l:List Sp}{x:Sp}(h:Gd l)(hx:x.may=true)(hd:∀n,lX l n->¬x.has n):∀y∈l,y.fin<=x.at_\/x.fin<=y.at_:=by
 intro y hy
 have h1:=Sp.ax.1 hx
 have h2:=Sp.ax.1 (h.may y hy)
 have h3:=hd (max x.at_ y.at_)
 by_cases c:y.has (max x.at_ y.at_)
 ·have:=h3 ⟨y,hy,c⟩
  simp only [Sp.has,Sp.fin] at *;omega
 ·simp only [Sp.has,Sp.fin] at *;omega
theorem OG {l:List Sp}{x:Sp}(h:Gd l)(hx:x.may=true)(hd:∀y∈l,y.fin<=x.at_\/x.fin<=y.at_)(hl:(bM l x false).length<=4096):vx l x=0:=by
 unfold vx
 rw [if_pos (by simp [hx,Kg h hd]),if_neg oZ]
theorem Gr {x:Sp}{n:Int}:lX [x] n↔x.has n:=by simp [lX]
theorem cover {l:List Sp}(h:Gd l){x:Sp}(hx:x.may=true)(hc:∀n,x.has n->lX l n):∃y∈l,y.at_<=x.at_/\x.fin<=y.fin:=by
 have m1:=Sp.ax.1 hx
 obtain ⟨y,hy,hyn⟩:=hc x.at_ (by simp only [Sp.has,Sp.fin];omega)
 refine ⟨y,hy,hyn.1, ?_⟩
 by_cases c:x.fin<=y.fin
 ·exact c
 ·exfalso
  obtain ⟨z,hz,hzn⟩:=hc y.fin (by simp only [Sp.has] at *;omega)
  obtain ⟨i,hi,rfl⟩:=List.getElem_of_mem hy
  obtain ⟨j,hj,rfl⟩:=List.getElem_of_mem hz
  have mi:=Sp.ax.1 (h.may _ hy)
  rcases Nat.lt_trichotomy i j with q | rfl | q
  ·have:=List.pairwise_iff_getElem.1 h.yh i j hi hj q
   simp only [Sp.has,Sp.fin] at *;omega
  ·simp only [Sp.has] at hzn;omega
  ·have:=List.pairwise_iff_getElem.1 h.yh j i hj hi q
   simp only [Sp.has,Sp.fin] at *;omega
theorem vz {l:List Sp}{n f at':Int}(h:iP l n f=(at',true)):∃y∈l,at'=max y.at_ f/\at'<=y.fin/\n<=y.fin - at':=by
 induction l with
 | nil=>simp [iP] at h
 | cons y r ih =>
  unfold iP at h
  split at h
  ·rename_i c
   cases h
   exact ⟨y,List.mem_cons_self ..,rfl,c⟩
  ·obtain ⟨z,hz,q⟩:=ih h
   exact ⟨z,List.mem_cons_of_mem _ hz,q⟩
theorem find_spec {l:List Sp}(h:Gd l){n f at':Int}(hf:gG l n f=(at',true)):f<=at'/\lW l ⟨at',n⟩=true/\(at'=f\/lW l ⟨at' - 1,n⟩=false):=by
 unfold gG at hf
 split at hf
 ·cases hf
 rename_i c
 obtain ⟨y,hy,h1,h2,h3⟩:=vz hf
 have my:=Sp.ax.1 (h.may y hy)
 refine ⟨by omega,OF h (by rw [Sp.ax];simp only [Sp.fin] at *;omega) ⟨y,hy,by simp only;omega,by simp only [Sp.fin] at *;omega⟩, ?_⟩
 by_cases e:at'=f
 ·exact .inl e
 ·right
  cases hh:lW l ⟨at' - 1,n⟩ with
  | false=>rfl
  | true =>
   exfalso
   obtain ⟨z,hz,h4,h5⟩:=vy h hh
   obtain ⟨i,hi,rfl⟩:=List.getElem_of_mem hy
   obtain ⟨j,hj,rfl⟩:=List.getElem_of_mem hz
   have mz:=Sp.ax.1 (h.may _ hz)
   rcases Nat.lt_trichotomy i j with q | rfl | q
   ·have:=List.pairwise_iff_getElem.1 h.yh i j hi hj q
    simp only [Sp.fin] at *;omega
   ·simp only [Sp.fin] at *;omega
   ·have:=List.pairwise_iff_getElem.1 h.yh j i hj hi q
    simp only [Sp.fin] at *;omega
theorem Df {l:List Sp}(h:Gd l){n f:Int}{y:Sp}(hy:y∈l)(h1:max y.at_ f<=y.fin)(h2:n<=y.fin - max y.at_ f):∃at',iP l n f=(at',true)/\at'<=max y.at_ f:=by
 induction l with
 | nil=>cases hy
 | cons z r ih =>
  obtain ⟨g1,g2,g3⟩:=bZ.1 h
  have mz:=Sp.ax.1 g1
  unfold iP
  by_cases c:max z.at_ f<=z.fin/\n<=z.fin - max z.at_ f
  ·rw [if_pos c]
   refine ⟨_,rfl, ?_⟩
   rcases List.mem_cons.1 hy with rfl | hy
   ·exact Int.le_refl _
   ·have:=g2 y hy;simp only [Sp.fin] at *;omega
  ·rw [if_neg c]
   rcases List.mem_cons.1 hy with rfl | hy
   ·exact absurd ⟨h1,h2⟩ c
   ·exact ih g3 hy
theorem Gs {l:List Sp}(h:Gd l){n f:Int}(hn:1<=n)(hf:0<=f){y:Sp}(hy:y∈l)(h1:max y.at_ f<=y.fin)(h2:n<=y.fin - max y.at_ f):∃at',gG l n f=(at',true)/\at'<=max y.at_ f:=by
 unfold gG
 rw [if_neg oZ]
 exact Df h hy h1 h2
theorem yk {l:List Sp}{n f:Int}(hn:1<=n){k:Nat}(hk:Cut l f k):iP l n f=iP (l.drop k) n f:=by
 have:∀(m:Nat),m<=k->iP l n f=iP (l.drop m) n f:=by
  intro m
  induction m with
  | zero=>intro _;rfl
  | succ m ih =>
   intro hm
   have Wc:m<l.length:=by have:=hk.1;omega
   rw [ih oZ,List.drop_eq_getElem_cons Wc,iP,if_neg]
   have:=hk.2.1 m Wc oZ
   omega
 exact this k (Nat.le_refl _)
theorem TA {l:List Sp}(h:Gd l){k:Nat}{b:Int}(hl:∀h:k<l.length,b<=l[k].at_):∀y∈l.drop k,b<=y.at_:=by
 intro y hy
 obtain ⟨j,hj,rfl⟩:=List.getElem_of_mem hy
 rw [List.length_drop] at hj
 rw [List.getElem_drop]
 have h0:=hl oZ
 rcases Nat.eq_zero_or_pos j with rfl | hj0
 ·simpa using h0
 ·have:=List.pairwise_iff_getElem.1 h.yh k (k+j) oZ oZ oZ
  have h2:=Sp.ax.1 (h.may _ (List.getElem_mem (show k<l.length by omega)))
  simp only [Sp.fin] at *;omega
theorem yl {l:List Sp}(h:Gd l){x:Sp}(hx:x.may=true){k:Nat}(hk:Cut l x.at_ k)(hn:¬ ∃h:0<k,(l[k - 1]'(by have:=hk.1;omega)).fin=x.at_):bM l x false=l.take k++bM (l.drop k) x false:=by
 conv=>lhs;rw [<-List.take_append_drop k l]
 refine vm hx fun y hy=>⟨h.may y (List.mem_of_mem_take hy), ?_⟩
 obtain ⟨j,hj,rfl⟩:=List.getElem_of_mem hy
 rw [List.length_take] at hj
 rw [List.getElem_take]
 have lV:=hk.1
 have h1:=hk.2.1 j oZ oZ
 have h2:¬(l[k - 1]'oZ).fin=x.at_:=fun q=>hn ⟨by omega,q⟩
 by_cases c:j=k - 1
 ·subst c;omega
 ·have:=List.pairwise_iff_getElem.1 h.yh j (k - 1) oZ oZ oZ
  have h3:=hk.2.1 (k - 1) oZ oZ
  have h4:=Sp.ax.1 (h.may _ (List.getElem_mem (show k - 1<l.length by omega)))
  have h5:(l[k - 1]'oZ).at_<(l[k - 1]'oZ).fin:=by simp only [Sp.fin];omega
  omega
theorem vB {l:List Sp}(h:Gd l){x:Sp}(hx:x.may=true){k:Nat}(hk:k+1<=l.length)(hn:(l[k]'oZ).fin=x.at_) :
  bM l x false=l.take k++bM (l.drop (k+1)) ⟨(l[k]'oZ).at_,(l[k]'oZ).many+x.many⟩ false:=by
 conv=>lhs;rw [<-List.take_append_drop k l,List.drop_eq_getElem_cons (show k<l.length by omega)]
 rw [vm hx fun y hy=>⟨h.may y (List.mem_of_mem_take hy),by
  obtain ⟨j,hj,rfl⟩:=List.getElem_of_mem hy
  rw [List.length_take] at hj
  rw [List.getElem_take]
  have:=List.pairwise_iff_getElem.1 h.yh j k oZ oZ oZ
  have h4:=Sp.ax.1 (h.may _ (List.getElem_mem (show k<l.length by omega)))
  simp only [Sp.fin] at *;omega⟩,bM,if_pos hn]
theorem ow {l:List Sp}(h:Gd l){x:Sp}(hx:x.may=true){k:Nat}(hl:∀h:k<l.length,x.fin<l[k].at_):bM (l.drop k) x false=x :: l.drop k :=
 De (h.drop k) hx fun y hy=>by have:=TA h (k:=k) (b:=x.fin+1) (fun h=>by have:=hl h;omega) y hy;omega
theorem su {l:List Sp}(h:Gd l){x:Sp}(hx:x.may=true){k:Nat}(hk:k<l.length)(hl:l[k].at_=x.fin):bM (l.drop k) x false=⟨x.at_,x.many+l[k].many⟩ :: l.drop (k+1):=by
 have yi:=Sp.ax.1 hx
 have hm:=Sp.ax.1 (h.may _ (List.getElem_mem hk))
 rw [List.drop_eq_getElem_cons hk,bM,if_neg (by simp only [Sp.fin] at *;omega),if_pos hl.symm]
 refine ow h (by rw [Sp.ax];simp only [Sp.fin] at *;omega) fun h2 => ?_
 have:=List.pairwise_iff_getElem.1 h.yh k (k+1) hk h2 oZ
 simp only [Sp.fin] at *;omega
section
variable {l:List Sp}{x:Sp}{k:Nat}
theorem Gt (h:Gd l)(hx:x.may=true)(hk:k<=l.length)(h0:0<k)(h1:(l[k - 1]'oZ).fin=x.at_):(⟨(l[k - 1]'oZ).at_,(l[k - 1]'oZ).many+x.many⟩:Sp).may=true:=by
 have yi:=Sp.ax.1 hx
 have hm:=Sp.ax.1 (h.may _ (List.getElem_mem (show k - 1<l.length by omega)))
 rw [Sp.ax];simp only [Sp.fin] at *;omega
theorem wLR (h:Gd l)(hx:x.may=true)(hk:k<l.length)(h0:0<k)(h1:(l[k - 1]'oZ).fin=x.at_)(h2:l[k].at_=(⟨(l[k - 1]'oZ).at_,(l[k - 1]'oZ).many+x.many⟩:Sp).fin) :
  l.take (k - 1)++[⟨(l[k - 1]'oZ).at_,(l[k - 1]'oZ).many+x.many+l[k].many⟩]++l.drop (k+1)=bM l x false:=by
 rw [vB h hx (k:=k - 1) oZ h1]
 have e:k - 1+1=k:=by omega
 simp only [e]
 rw [su h (Gt h hx oZ h0 h1) hk h2]
 simp
theorem wL (h:Gd l)(hx:x.may=true)(hk:k<=l.length)(h0:0<k)(h1:(l[k - 1]'oZ).fin=x.at_)(hn:∀h:k<l.length,x.fin<=l[k].at_)(h2:¬ ∃h:k<l.length,l[k].at_=(⟨(l[k - 1]'oZ).at_,(l[k - 1]'oZ).many+x.many⟩:Sp).fin) :
  l.take (k - 1)++[⟨(l[k - 1]'oZ).at_,(l[k - 1]'oZ).many+x.many⟩]++l.drop k=bM l x false:=by
 rw [vB h hx (k:=k - 1) oZ h1]
 have e:k - 1+1=k:=by omega
 simp only [e]
 rw [ow h (Gt h hx oZ h0 h1) fun h3 => ?_]
 ·simp
 ·have h4:=hn h3
  have h5:¬l[k].at_=_:=fun q=>h2 ⟨h3,q⟩
  simp only [Sp.fin] at *;omega
theorem wR (h:Gd l)(hx:x.may=true)(hk:Cut l x.at_ k)(h0:¬ ∃h:0<k,(l[k - 1]'(by have:=hk.1;omega)).fin=x.at_)(h1:k<l.length)(h2:l[k].at_=x.fin) :
  l.take k++[⟨x.at_,x.many+l[k].many⟩]++l.drop (k+1)=bM l x false:=by
 rw [yl h hx hk h0,su h hx h1 h2];simp
theorem wN (h:Gd l)(hx:x.may=true)(hk:Cut l x.at_ k)(h0:¬ ∃h:0<k,(l[k - 1]'(by have:=hk.1;omega)).fin=x.at_)(hn:∀h:k<l.length,x.fin<=l[k].at_)(h2:¬ ∃h:k<l.length,l[k].at_=x.fin) :
  l.take k++[x]++l.drop k=bM l x false:=by
 rw [yl h hx hk h0,ow h hx fun q=>by
  have h3:=hn q
  have h4:¬l[k].at_=x.fin:=fun r=>h2 ⟨q,r⟩
  omega];simp
end
theorem Sp.bC (x:Sp):∀u∈x.lay,u.oneCell'=true:=fun u hu=>by
 simp only [Sp.lay,List.mem_cons,List.not_mem_nil,or_false] at hu
 rcases hu with rfl | rfl <;> rfl
end Go.Sl
namespace Go.Proofs.YtcfioaeamfappaaGreatDoor
open Go.Sl
set_option maxRecDepth 10000
set_option maxHeartbeats 4000000
abbrev rsO (v:Value)(mn:Int):Obj:=av [v,.int .i64 mn] 238
def LX (p:Nat)(l:List Sp)(mn:Int)(A:Chunk):Prop:=∃ad c D,az D 150 2 (.slice ad l.length c) l.length (l.flatMap Sp.lay)/\A=[(p,rsO (.slice ad l.length c) mn)]++D
theorem OH:Ct 103 [] [] fun u Bs=>∃p A,u=ptr p/\LX p [] 0 A/\Bs=[A]:=by
 refine st Tryz.func103 fun w0 => ?_
 refine ga ?_;intro p
 refine gz ?_
 exact fin ⟨p,[(p,rsO (.slice none 0 0) 0)],rfl,⟨none,0,[],az.nil _ _,rfl⟩,rfl⟩ aa
theorem iM (x:Sp)(h : -4000000000000000000<=x.at_/\x.at_<=4000000000000000000 /\ -4000000000000000000<=x.many/\x.many<=4000000000000000000):Ct 149 [x.agg] [] fun u Bs=>u = .int .i64 x.fin/\Bs=[]:=by
 have hw:IntKind.i64.wrap (x.at_+x.many)=x.fin:=by rw [IntWalk.i64_in _ oZ];rfl
 refine st Tryz.func149 fun w0 => ?_
 refine ga ?_;intro b
 refine gz ?_
 exact fin ⟨rfl,rfl⟩ aa
theorem Gu (x:Sp)(h : -4000000000000000000<=x.at_/\x.at_<=4000000000000000000):Ct 204 [x.agg] [] fun u Bs=>u = .bool x.may/\Bs=[]:=by
 have hw:IntKind.i64.wrap (1099511627776 - x.at_)=1099511627776 - x.at_:=by rw [IntWalk.i64_in _ oZ]
 refine st Tryz.func204 fun w0 => ?_
 refine ga ?_;intro b
 refine gg ?_ ?_ <;> intro h1
 ·refine gg ?_ ?_ <;> intro h2
  ·refine gg ?_ ?_ <;> intro h3
   ·refine gz ?_
    exact fin ⟨congrArg _ (by unfold Sp.may;exact decide_eq_decide.2 oZ),rfl⟩ aa
   ·refine gz ?_
    exact fin ⟨congrArg _ (by unfold Sp.may;exact (decide_eq_false oZ).symm),rfl⟩ aa
  ·refine gz ?_
   exact fin ⟨congrArg _ (by unfold Sp.may;exact (decide_eq_false oZ).symm),rfl⟩ aa
 ·refine gz ?_
  exact fin ⟨congrArg _ (by unfold Sp.may;exact (decide_eq_false oZ).symm),rfl⟩ aa
theorem Kh (p:Nat)(l:List Sp)(mn n:Int)(ad:Option Addr)(c:Nat)(D:Chunk)(hD:az D 150 2 (.slice ad l.length c) l.length (l.flatMap Sp.lay))(hG:zV l):Ct 148 [ptr p,.int .i64 n] [[(p,rsO (.slice ad l.length c) mn)],D] fun u Bs=>∃k:Nat,u = .int .i64 k/\Cut l n k/\Bs=[[(p,rsO (.slice ad l.length c) mn)],D]:=by
 have jq:=hD.rd
 have hlen:=hG.len
 refine st Tryz.func148 fun w0 => ?_
 refine gl [0,1] (fun ((lo,hi):Nat×Nat)=>[(5,.int .i64 lo),(6,.int .i64 hi)]) (fun _=>[]) (fun (lo,hi)=>lo<=hi/\hi<=l.length/\(∀(i:Nat) (h:i<l.length),i<lo->(l[i]'h).fin<=n)/\(∀(i:Nat) (h:i<l.length),hi<=i->n<(l[i]'h).fin)) (fun (lo,hi)=>hi - lo) (0,l.length) ⟨by omega,by omega,(fun i _ h=>by omega),(fun i h h2=>by omega)⟩ ?_
 rintro ⟨lo,hi⟩ ⟨hlh,hhl,h1,h2⟩
 refine gi ?_ ?_ <;> intro bh
 ·obtain ⟨g,off,rfl⟩:=jq.addr oZ
  have Gv:(lo+hi) / 2<l.length:=by omega
  have hs:=ar Sp.aj l ((lo+hi) / 2) _ (List.getElem?_eq_getElem Gv)
  have gh:=hG.at Gv
  have Gw:IntKind.i64.wrap ((lo:Int)+hi)=((lo+hi:Nat):Int):=by rw [IntWalk.i64_in _ oZ];omega
  refine gc (iM l[(lo+hi) / 2] oZ) ?_
  rintro _ _ ⟨rfl,rfl⟩
  refine gi ?_ ?_ <;> intro hb
  ·refine gn ?_
   exact ⟨(lo,(lo+hi) / 2),⟨by omega,by omega,h1,(fun i h Rz=>Int.lt_of_lt_of_le (by simpa using hb) (hG.zW Rz h))⟩,by simp only;omega,aq,_,aa⟩
  ·refine gn ?_
   exact ⟨((lo+hi) / 2+1,hi),⟨by omega,by omega,(fun i h Rz=>Int.le_trans (hG.zW (show i<=(lo+hi) / 2 by omega) Gv) (by simpa using hb)),h2⟩,by simp only;omega,aq,_,aa⟩
 ·obtain rfl:lo=hi:=by omega
  refine gz ?_
  exact fin ⟨lo,rfl,⟨hhl,h1,h2⟩,rfl⟩ aa
theorem nn (p:Nat)(l:List Sp)(mn n:Int)(A:Chunk)(hA:LX p l mn A)(hG:zV l):Ct 148 [ptr p,.int .i64 n] [A] fun u Bs=>∃k:Nat,u = .int .i64 k/\Cut l n k/\Bs=[A]:=by
 obtain ⟨ad,c,D,hD,rfl⟩:=hA
 have jq:=hD.rd
 have hlen:=hG.len
 refine st Tryz.func148 fun w0 => ?_
 refine gs ?_
 refine gl [0,1] (fun ((lo,hi):Nat×Nat)=>[(5,.int .i64 lo),(6,.int .i64 hi)]) (fun _=>[]) (fun (lo,hi)=>lo<=hi/\hi<=l.length/\(∀(i:Nat) (h:i<l.length),i<lo->(l[i]'h).fin<=n)/\(∀(i:Nat) (h:i<l.length),hi<=i->n<(l[i]'h).fin)) (fun (lo,hi)=>hi - lo) (0,l.length) ⟨by omega,by omega,(fun i _ h=>by omega),(fun i h h2=>by omega)⟩ ?_
 rintro ⟨lo,hi⟩ ⟨hlh,hhl,h1,h2⟩
 refine gi ?_ ?_ <;> intro bh
 ·obtain ⟨g,off,rfl⟩:=jq.addr oZ
  have Gv:(lo+hi) / 2<l.length:=by omega
  have hs:=ar Sp.aj l ((lo+hi) / 2) _ (List.getElem?_eq_getElem Gv)
  have gh:=hG.at Gv
  have Gw:IntKind.i64.wrap ((lo:Int)+hi)=((lo+hi:Nat):Int):=by rw [IntWalk.i64_in _ oZ];omega
  refine gc (iM l[(lo+hi) / 2] oZ) ?_
  rintro _ _ ⟨rfl,rfl⟩
  refine gi ?_ ?_ <;> intro hb
  ·refine gn ?_
   exact ⟨(lo,(lo+hi) / 2),⟨by omega,by omega,h1,(fun i h Rz=>Int.lt_of_lt_of_le (by simpa using hb) (hG.zW Rz h))⟩,by simp only;omega,aq,_,aa⟩
  ·refine gn ?_
   exact ⟨((lo+hi) / 2+1,hi),⟨by omega,by omega,(fun i h Rz=>Int.le_trans (hG.zW (show i<=(lo+hi) / 2 by omega) Gv) (by simpa using hb)),h2⟩,by simp only;omega,aq,_,aa⟩
 ·obtain rfl:lo=hi:=by omega
  refine gz ?_
  exact fin ⟨lo,rfl,⟨hhl,h1,h2⟩,rfl⟩ aa
section
variable (p:Nat)(l:List Sp)(mn:Int)(A:Chunk)(hA:LX p l mn A)(hG:zV l)(x:Sp)(hx : -4000000000000000000<=x.at_/\x.at_<=4000000000000000000)
include hA hG hx
theorem vC:Ct 205 [ptr p,x.agg] [A] fun u Bs=>u = .bool (eb l x)/\Bs=[A]:=by
 have hbh:=nn p l mn x.at_ A hA hG
 refine st Tryz.func205 fun w0 => ?_
 refine ga ?_;intro b
 refine gc (Gu x hx) ?_
 rintro _ _ ⟨rfl,rfl⟩
 cases hm:x.may with
 | false =>
  refine gz ?_
  exact fin ⟨by simp [eb,hm],rfl⟩ aa
 | true =>
  have FY:=Sp.ax.1 hm
  refine gc hbh ?_
  rintro _ _ ⟨k,rfl,hk,rfl⟩
  obtain ⟨ad,c,D,hD,rfl⟩:=hA
  have jq:=hD.rd
  have hlen:=hG.len
  refine gs ?_
  refine gd [0,4,8,12,16,20,24,28,32,36,40,44,48,52,56,60,64,69,72,76,80] ?_
  refine gg ?_ ?_ <;> intro lV
  ·have lV:k<l.length:=by omega
   obtain ⟨g,off,rfl⟩:=jq.addr oZ
   have hs:=ar Sp.aj l k _ (List.getElem?_eq_getElem lV)
   have xe:=hs 0 _ rfl
   refine gc (iM x oZ) ?_
   rintro _ _ ⟨rfl,rfl⟩
   refine gz ?_
   exact fin ⟨congrArg _ (by rw [Bool.eq_iff_iff,ry hG.gd hm hk];simp [lV]),rfl⟩ aa
  ·refine gz ?_
   exact fin ⟨congrArg _ (by rw [Bool.eq_iff_iff,ry hG.gd hm hk];simp;exact fun h=>absurd h oZ),rfl⟩ aa
theorem OI:Ct 147 [ptr p,x.agg] [A] fun u Bs=>u = .bool (lW l x)/\Bs=[A]:=by
 have hbh:=nn p l mn x.at_ A hA hG
 refine st Tryz.func147 fun w0 => ?_
 refine ga ?_;intro b
 refine gc (Gu x hx) ?_
 rintro _ _ ⟨rfl,rfl⟩
 cases hm:x.may with
 | false =>
  refine gz ?_
  exact fin ⟨by simp [lW,hm],rfl⟩ aa
 | true =>
  have FY:=Sp.ax.1 hm
  refine gc hbh ?_
  rintro _ _ ⟨k,rfl,hk,rfl⟩
  obtain ⟨ad,c,D,hD,rfl⟩:=hA
  have jq:=hD.rd
  have hlen:=hG.len
  refine gs ?_
  refine gd [0,4,8,12,16,20,24,28,32,36,40,44,48,52,56,60,64,68,72,76,80,84,88,92,96,100,104,108,116,113,123,126,130,134] ?_
  refine gg ?_ ?_ <;> intro lV
  ·have lV:k<l.length:=by omega
   obtain ⟨g,off,rfl⟩:=jq.addr oZ
   have hs:=ar Sp.aj l k _ (List.getElem?_eq_getElem lV)
   have xe:=hs 0 _ rfl
   have gh:=hG.at lV
   refine gg ?_ ?_ <;> intro hle
   ·refine gc (iM l[k] oZ) ?_
    rintro _ _ ⟨rfl,rfl⟩
    refine gc (iM x oZ) ?_
    rintro _ _ ⟨rfl,rfl⟩
    refine gz ?_
    exact fin ⟨congrArg _ (by rw [Bool.eq_iff_iff,tu hG.gd hm hk];simp [lV];omega),rfl⟩ aa
   ·refine gz ?_
    exact fin ⟨congrArg _ (by rw [Bool.eq_iff_iff,tu hG.gd hm hk];simp [lV];omega),rfl⟩ aa
  ·refine gz ?_
   exact fin ⟨congrArg _ (by rw [Bool.eq_iff_iff,tu hG.gd hm hk];simp;omega),rfl⟩ aa
end
end Go.Proofs.YtcfioaeamfappaaGreatDoor
namespace Go.Sl
def nI (ls:List (Value×List Sp)):Nat:=(ls.flatMap (·.2)).length
structure Sls (O:Chunk)(ls:List (Value×List Sp)):Prop where
 rd:∀x∈ls,Rd O 2 x.1 x.2.length (x.2.flatMap Sp.lay)
 sl:∀x∈ls,∃ad c,x.1 = .slice ad x.2.length c
 jE:ls.length<=100
 sum:nI ls<=100000
theorem mE {α β:Type}(f:α->List β)(l:List α){i:Nat}(hi:i<l.length):(l.take (i+1)).flatMap f=(l.take i).flatMap f++f l[i]:=by
 rw [aG l hi,List.flatMap_append];simp only [List.flatMap_cons,List.flatMap_nil,List.append_nil]
theorem mF (l:List (Value×List Sp)){i:Nat}(hi:i<l.length):nI (l.take (i+1))=nI (l.take i)+l[i].2.length:=by
 rw [aG l hi];simp only [nI,List.flatMap_append,List.length_append,List.flatMap_cons,List.flatMap_nil,List.append_nil]
theorem pR (l:List (Value×List Sp))(i:Nat):nI (l.take i)<=nI l:=by
 conv=>rhs;rw [<-List.take_append_drop i l]
 simp only [nI,List.flatMap_append,List.length_append]
 omega
theorem pS (l:List Sp)(k:Nat):(l.flatMap Sp.lay).drop (k*2)=(l.drop k).flatMap Sp.lay:=by
 induction k generalizing l with
 | zero=>simp
 | succ k ih=>cases l with
  | nil=>simp
  | cons y r=>rw [List.flatMap_cons,Nat.succ_mul,List.drop_succ_cons,<-ih r,Nat.add_comm (k*2) 2,<-List.drop_drop];rfl
theorem lB (l:List Sp)(k:Nat):(l.flatMap Sp.lay).take (k*2)=(l.take k).flatMap Sp.lay:=by
 induction k generalizing l with
 | zero=>simp
 | succ k ih=>cases l with
  | nil=>simp
  | cons y r =>
   rw [List.flatMap_cons,List.take_succ_cons,List.flatMap_cons,<-ih r,Nat.succ_mul]
   show List.take (k*2+2) (_ :: _ :: _)=_ :: _ :: _
   rw [List.take_succ_cons,List.take_succ_cons];rfl
end Go.Sl
namespace Go.Proofs.YtcfioaeamfappaaGreatDoor
open Go.Sl
set_option maxRecDepth 10000
set_option maxHeartbeats 4000000
theorem TC (m:Nat)(hm:m<=1000000):Ct 253 [.slice none 0 0,.int .i64 m] [] fun u Bs=>∃C,az C 150 2 u 0 []/\Bs=[C]:=by
 rcases Nat.eq_zero_or_pos m with rfl | h0
 ·refine st Tryz.func253 fun w0 => ?_
  refine gz ?_
  exact fin ⟨[],az.nil _ _,rfl⟩ aa
 ·refine st Tryz.func253 fun w0 => ?_
  refine gpz ?_;intro g c l hc lS hl
  refine gv ?_
  refine gz ?_
  exact fin ⟨_,tZ lS hl,rfl⟩ aa
theorem Ki (D O:Chunk)(vo:Value)(n:Nat)(ls:List (Value×List Sp))(hn:ls.length=n)(hD:Rd D 1 vo n (ls.map (·.1)))(hO:Sls O ls) :
  Ct 206 [vo] [D,O] fun u Bs=>∃C,az C 150 2 u (nI ls) ((ls.flatMap (·.2)).flatMap Sp.lay)/\Bs=[C,D,O]:=by
 subst hn
 obtain ⟨ad,c,rfl⟩:=hD.slice
 have nJ:=hO.jE
 have ads:=hO.sum
 refine st Tryz.func206 fun w0 => ?_
 refine gl [0,9,10] (fun j:Nat=>[(11,.int .i64 j),(3,.int .i64 (nI (ls.take j):Nat))]) (fun _=>[]) (fun j=>j<=ls.length) (fun j=>ls.length - j) 0 oZ ?_
 intro j hj
 refine gi ?_ ?_ <;> intro bh
 ·have bo:j<ls.length:=by omega
  obtain ⟨b,off,rfl⟩:=hD.addr oZ
  obtain ⟨ad2,c2,TD⟩:=hO.sl ls[j] (List.getElem_mem bo)
  have cu:=mF ls bo
  have fM:=pR ls (j+1)
  have bV:(ls.map (·.1))[j]? = some (.slice ad2 ls[j].2.length c2):=by simp [bo,TD]
  have ha:IntKind.i64.wrap (((nI (ls.take j):Nat):Int)+(ls[j].2.length:Nat))=((nI (ls.take (j+1)):Nat):Int):=by rw [IntWalk.i64_in _ oZ];omega
  refine gn ?_
  exact ⟨j+1,by omega,by omega,aq,_,aa⟩
 ·obtain rfl:j=ls.length:=by omega
  rw [List.take_length]
  refine gc (TC (nI ls) oZ) ?_
  rintro v0 _ ⟨C,hC,rfl⟩
  refine gl [0,25,26] (fun ((j,v,_):Nat×Value×Chunk)=>[(27,.int .i64 j),(6,v)]) (fun (_,_,C)=>[C]) (fun (j,v,C)=>j<=ls.length/\az C 150 2 v (nI (ls.take j)) ((ls.take j).flatMap fun x=>x.2.flatMap Sp.lay)) (fun (j,_)=>ls.length - j) (0,v0,C) ⟨by omega,hC⟩ ?_
  rintro ⟨j,v,C⟩ ⟨hj,hC⟩
  obtain ⟨j2,cv,rfl⟩:=hC.slice
  refine gi ?_ ?_ <;> intro bh
  ·have bo:j<ls.length:=by omega
   obtain ⟨b,off,rfl⟩:=hD.addr oZ
   obtain ⟨ad2,c2,TD⟩:=hO.sl ls[j] (List.getElem_mem bo)
   have cu:=mF ls bo
   have fM:=pR ls (j+1)
   have hft:=mE (fun x:Value×List Sp=>x.2.flatMap Sp.lay) ls bo
   have oM:=hO.rd ls[j] (List.getElem_mem bo)
   rw [TD] at oM
   have bV:(ls.map (·.1))[j]? = some (.slice ad2 ls[j].2.length c2):=by simp [bo,TD]
   refine gp ?_;intro fJ c3 C3 ka
   rw [<-cu]
   rw [<-cu,<-hft] at ka
   refine gn ?_
   exact ⟨(j+1,_,C3),⟨by omega,ka⟩,by simp only;omega,aq,_,aa⟩
  ·obtain rfl:j=ls.length:=by omega
   rw [List.take_length] at hC ⊢
   refine gz ?_
   exact fin ⟨C,by rw [List.flatMap_assoc];exact hC,rfl⟩ aa
theorem TE (p:Nat)(l:List Sp)(mn n f:Int)(A:Chunk)(hA:LX p l mn A)(hG:zV l)(hn:1<=n/\n<=1000000)(hf:0<=f/\f<=4000000000000000000):Ct 289 [ptr p,.int .i64 n,.int .i64 f] [A] fun u Bs=>u = .tuple #[.int .i64 (gG l n f).1,.bool (gG l n f).2]/\Bs=[A]:=by
 have hlen:=hG.len
 obtain ⟨ad,c,D,hD,rfl⟩:=hA
 have hbh:=Kh p l mn f ad c D hD hG
 have jq:=hD.rd
 have abd:=hD.dL
 refine st Tryz.func289 fun w0 => ?_
 refine gs ?_
 refine gd [0,4,8,12,16,20,36,25,28,32] ?_
 refine gc hbh ?_
 rintro _ _ ⟨k,rfl,hk,rfl⟩
 have lV:=hk.1
 have sQ:(l.drop k).length=l.length - k:=List.length_drop
 have nZ:((l.flatMap Sp.lay).drop (k*2)).take ((l.length - k)*2)=(l.drop k).flatMap Sp.lay:=by
  rw [pS,lB,List.take_of_length_le oZ]
 refine gw ?_;intro ad2 kr
 have hgd:=hG.gd.drop k
 refine gl [1,2,24,25] (fun j:Nat=>[(26,.int .i64 j)]) (fun _=>[]) (fun j=>j<=l.length - k/\iP (l.drop k) n f=iP ((l.drop k).drop j) n f) (fun j=>l.length - k - j) 0 ⟨by omega,rfl⟩ ?_
 rintro j ⟨hj,Wj⟩
 refine gi ?_ ?_ <;> intro bh
 ·have bo:j<(l.drop k).length:=by omega
  obtain ⟨b,off,rfl⟩:=kr.addr oZ
  have gh:=Sp.ax.1 (hgd.may _ (List.getElem_mem bo))
  have hs:=ar Sp.aj (l.drop k) j _ (List.getElem?_eq_getElem bo)
  rw [List.drop_eq_getElem_cons bo,iP] at Wj
  have zQ:f<((l.drop k)[j]'bo).fin:=by
   have h2:=hk.2.2 (k+j) oZ oZ
   rw [List.getElem_drop];exact h2
  obtain ⟨y,hy⟩:∃y,y=(l.drop k)[j]:=⟨_,rfl⟩
  rw [<-hy] at gh hs Wj zQ
  have hfy:y.fin=y.at_+y.many:=rfl
  refine ga ?_;intro b9
  refine gc (iM y oZ) ?_
  rintro _ _ ⟨rfl,rfl⟩
  have N7:IntKind.i64.wrap (y.fin - max y.at_ f)=y.fin - max y.at_ f:=by rw [IntWalk.i64_in _ oZ]
  refine gi ?_ ?_ <;> intro hle
  ·have hle:n<=y.fin - max y.at_ f:=by simpa using hle
   rw [if_pos ⟨by omega,hle⟩] at Wj
   have jo:gG l n f=(max y.at_ f,true):=by unfold gG;rw [if_neg oZ,yk oZ hk,Wj]
   rw [jo]
   refine gz ?_
   exact fin ⟨rfl,rfl⟩ aa
  ·have hle:¬n<=y.fin - max y.at_ f:=by simpa using hle
   rw [if_neg (fun h=>hle h.2)] at Wj
   refine gn ?_
   exact ⟨j+1,⟨by omega,Wj⟩,by omega,aq,_,aa⟩
 ·obtain rfl:j=l.length - k:=by omega
  rw [List.drop_of_length_le (l:=l.drop k) oZ,iP] at Wj
  have jo:gG l n f=(0,false):=by unfold gG;rw [if_neg oZ,yk oZ hk,Wj]
  rw [jo]
  refine gz ?_
  exact fin ⟨rfl,rfl⟩ aa
end Go.Proofs.YtcfioaeamfappaaGreatDoor
namespace Go.Sl
set_option maxRecDepth 10000
def qP (q:Bool):Pt:=match q with
 | true=>⟨0,0,0,1,0,0,0,0,0⟩
 | false=>⟨0,0,0,0,0,0,0,0,0⟩
def fD (out:List Sp):Sp:=out.getD (out.length - 1) ⟨0,0⟩
def Gx (out:List Sp)(a m:Int):List Sp:=if 0<out.length/\(fD out).at_+(fD out).many=a then out.set (out.length - 1) ⟨(fD out).at_,(fD out).many+m⟩ else out++[⟨a,m⟩]
def l7 (n:Nat):Nat->List Bool->List Sp->List Sp
 | _,[],out=>out
 | i,q :: r,out=>if n<=i*1024 then out else l7 n (i+1) r (if q then Gx out (i*1024:Nat) (min 1024 (n - i*1024):Nat) else out)
structure LY (out:List Sp)(i:Nat):Prop where
 len:out.length<=i
 bd:∀y∈out,0<=y.at_/\0<=y.many/\y.at_+y.many<=(i*1024:Nat)
theorem LY.up {out:List Sp}{i:Nat}(h:LY out i):LY out (i+1):=⟨by have:=h.len;omega,fun y hy=>by have:=h.bd y hy;omega⟩
theorem mG {out:List Sp}(h:0<out.length):out[out.length - 1]? = some (fD out):=by
 rw [fD,List.getD_eq_getElem?_getD,List.getElem?_eq_getElem oZ];rfl
theorem LY.last {out:List Sp}{i:Nat}(h:LY out i)(h0:0<out.length):0<=(fD out).at_/\0<=(fD out).many/\(fD out).at_+(fD out).many<=(i*1024:Nat):=h.bd _ (List.mem_of_getElem? (mG h0))
theorem LY.add {out:List Sp}{i m:Nat}(h:LY out i)(hm:m<=1024):LY (Gx out (i*1024:Nat) m) (i+1):=by
 unfold Gx
 split
 ·rename_i c
  have h1:=h.last c.1
  have h2:=h.len
  refine ⟨by rw [List.length_set];omega,fun y hy => ?_⟩
  rcases List.mem_or_eq_of_mem_set hy with hy | rfl
  ·have:=h.bd y hy;omega
  ·simp only;omega
 ·have h2:=h.len
  refine ⟨by simp;omega,fun y hy => ?_⟩
  rcases List.mem_append.1 hy with hy | hy
  ·have:=h.bd y hy;omega
  ·rw [List.mem_singleton.1 hy];simp only;omega
theorem vE {out:List Sp}{a m:Int}(h0:0<out.length)(h:(fD out).at_+(fD out).many=a):Gx out a m=out.set (out.length - 1) ⟨(fD out).at_,(fD out).many+m⟩:=if_pos ⟨h0,h⟩
theorem np {out:List Sp}{a m:Int}(h:¬(0<out.length/\(fD out).at_+(fD out).many=a)):Gx out a m=out++[⟨a,m⟩]:=if_neg h
theorem ym {r:List Value}{v:Int}:∀ {out:List Sp} {k:Nat} {z:Sp},out[k]? = some z->(out.flatMap Sp.lay++r).set (k*2+1) (.int .i64 v)=(out.set k ⟨z.at_,v⟩).flatMap Sp.lay++r
 | [],k,z,h=>by simp at h
 | y :: l,0,z,h=>by
  obtain rfl:y=z:=by simpa using h
  rfl
 | y :: l,k+1,z,h=>by
  have ih:=ym (r:=r) (v:=v) (out:=l) (k:=k) (z:=z) (by simpa using h)
  simp only [List.flatMap_cons,Sp.lay,List.cons_append,List.nil_append,List.set_cons_succ,Nat.succ_mul] at ih ⊢
  rw [ih]
theorem z8 (out:List Sp):∀u∈out.flatMap Sp.lay,u.oneCell'=true:=fun u hu=>by
 obtain ⟨x, -,hx⟩:=List.mem_flatMap.1 hu
 exact Sp.bC x u hx
theorem dy (out:List Sp):(out.flatMap Sp.lay).length=out.length*2:=by
 induction out with
 | nil=>rfl
 | cons x r ih=>rw [List.flatMap_cons,List.length_append,ih,Sp.aj,List.length_cons];omega
theorem vH {g c:Nat}{T:TypeId}{out:List Sp}{r:List Value}{m:Int}(h0:0<out.length)(hc:out.length<=c)(hm:c<=maxLen)(hl:(out.flatMap Sp.lay).length+r.length=c*2) :
  az [(g,av ((out.flatMap Sp.lay++r).set ((out.length - 1)*2+1) (.int .i64 m)) T)] T 2 (.slice (some ⟨g,0,none⟩) out.length c) out.length ((out.set (out.length - 1) ⟨(fD out).at_,m⟩).flatMap Sp.lay):=by
 rw [ym (mG h0)]
 refine tX (by rw [dy,List.length_set]) (z8 _) hc hm ?_
 rw [dy,List.length_set,<-dy];exact hl
end Go.Sl
namespace Go.Proofs.YtcfioaeamfappaaGreatDoor
open Go.Sl
set_option maxRecDepth 10000
set_option maxHeartbeats 4000000
theorem TF (O:Chunk)(ad:Option Addr)(c n:Nat)(qs:List Bool)(hq:qs.length=64)(hn:n<=65536)(hR:Rd O 9 (.slice ad 64 c) 64 (aO (qs.map qP))) :
  Ct 122 [.int .i64 n,.slice ad 64 c,.int .u64 0] [O] fun u Bs=>∃ba c' D,u = .slice ba (l7 n 0 qs []).length c'/\az D 150 2 u (l7 n 0 qs []).length ((l7 n 0 qs []).flatMap Sp.lay)/\Bs=[D,O]:=by
 obtain ⟨g,o,rfl⟩:=hR.addr oZ
 refine st Tryz.func122 fun w0 => ?_
 refine gl [0,2,13,14] (fun ((i,v7,_):Nat×Value×List Sp×Chunk)=>[(15,.int .i64 i),(7,v7)]) (fun (_,_,_,D)=>[D]) (fun (i,v7,out,D)=>i<=64/\(∃sN c7,v7 = .slice sN out.length c7)/\az D 150 2 v7 out.length (out.flatMap Sp.lay)/\LY out i/\l7 n i (qs.drop i) out=l7 n 0 qs []) (fun (i,_)=>64 - i) (0,.slice none 0 0,[],[]) ⟨by omega,⟨none,0,rfl⟩,az.nil _ _,⟨by simp,by simp⟩,rfl⟩ ?_
 rintro ⟨i,v7,out,D⟩ ⟨hi,⟨sN,c7,rfl⟩,hD,hO,cu⟩
 refine gi ?_ ?_ <;> intro bh
 ·have bo:i<qs.length:=by omega
  obtain ⟨q,YK⟩:∃q,q=qs[i]:=⟨_,rfl⟩
  have hx:(qs.map qP)[i]? = some (qP q):=by rw [YK];simp [List.getElem?_eq_getElem bo]
  have hs:=ar Pt.aj (qs.map qP) i _ hx
  rw [List.drop_eq_getElem_cons bo,<-YK,l7] at cu
  have Gy:=hO.len
  have aQ:=hO.add (m:=min 1024 (n - i*1024)) oZ
  clear YK hx
  refine ga ?_;intro b9
  refine gi ?_ ?_ <;> intro afA
  ·rw [if_pos oZ] at cu
   refine gz ?_
   rw [<-cu]
   exact fin ⟨sN,c7,D,rfl,hD,rfl⟩ aa
  ·rw [if_neg oZ] at cu
   cases q
   ·refine gn ?_
    exact ⟨(i+1,_,out,D),⟨by omega,⟨sN,c7,rfl⟩,hD,hO.up,cu⟩,by simp only;omega,aq,_,aa⟩
   ·refine go ?_
    rw [show min (1024:Int) ((n - i*1024:Nat):Int)=((min 1024 (n - i*1024):Nat):Int) by omega]
    simp only [if_true] at cu
    obtain ⟨m,hm⟩:∃m,m=min 1024 (n - i*1024):=⟨_,rfl⟩
    rw [<-hm] at cu aQ ⊢
    have LI:m<=1024:=by omega
    by_cases h0:0<out.length
    ·obtain ⟨nK,c8,r,hv,rfl,F7,lS,tc⟩:=hD.opened oZ
     cases hv
     have hz:=mG h0
     have lU:=ar Sp.aj out (out.length - 1) _ hz
     have TG:=hO.last h0
     have cV:=fun mm=>vH (g:=nK) (T:=150) (m:=mm) h0 F7 lS tc
     obtain ⟨z,Iy⟩:∃z,z=fD out:=⟨_,rfl⟩
     rw [<-Iy] at lU TG cV
     have Yx:IntKind.i64.wrap (z.at_+z.many)=z.at_+z.many:=IntWalk.i64_in _ oZ
     have N8:IntKind.i64.wrap (z.many+(m:Int))=z.many+m:=IntWalk.i64_in _ oZ
     have j3:(out.length:Int) - 1=((out.length - 1:Nat):Int):=by omega
     rw [j3]
     have jo:=dy out
     have OJ:(out.flatMap Sp.lay++r)[(out.length - 1)*2+0]? = some (.int .i64 z.at_):=by rw [List.getElem?_append_left oZ];exact lU 0 _ rfl
     have OK:(out.flatMap Sp.lay++r)[(out.length - 1)*2+1]? = some (.int .i64 z.many):=by rw [List.getElem?_append_left oZ];exact lU 1 _ rfl
     refine gi ?_ ?_ <;> intro hj
     ·rw [vE h0 (by rw [<-Iy];omega),<-Iy] at cu aQ
      refine gn ?_
      exact ⟨(i+1,_,out.set (out.length - 1) ⟨z.at_,z.many+m⟩,[(nK,av ((out.flatMap Sp.lay++r).set ((out.length - 1)*2+1) (.int .i64 (z.many+m))) 150)]),⟨by omega,⟨_,c7,by rw [List.length_set]⟩,by rw [List.length_set];exact cV _,aQ,cu⟩,by simp only;omega,aq,_,aa⟩
     ·rw [np (by rw [<-Iy];omega)] at cu aQ
      refine gm ?_;intro b0
      refine gp ?_;intro yd c8 D8 OL
      refine gn ?_
      exact ⟨(i+1,_,out++[⟨(i*1024:Nat),m⟩],D8),⟨by omega,⟨yd,c8,by rw [List.length_append]⟩,by simpa [Sp.lay] using OL,aQ,cu⟩,by simp only;omega,aq,_,aa⟩
    ·rw [np oZ] at cu aQ
     refine gm ?_;intro b0
     refine gp ?_;intro yd c8 D8 OL
     refine gn ?_
     exact ⟨(i+1,_,out++[⟨(i*1024:Nat),m⟩],D8),⟨by omega,⟨yd,c8,by rw [List.length_append]⟩,by simpa [Sp.lay] using OL,aQ,cu⟩,by simp only;omega,aq,_,aa⟩
 ·obtain rfl:i=64:=by omega
  rw [List.drop_eq_nil_of_le oZ,l7] at cu
  refine gz ?_
  rw [<-cu]
  exact fin ⟨sN,c7,D,rfl,hD,rfl⟩ aa
theorem Kj (O:Chunk)(ad:Option Addr)(c n:Nat)(qs:List Bool)(hq:qs.length=64)(hn:n<=65536)(hR:Rd O 9 (.slice ad 64 c) 64 (aO (qs.map qP))) :
  Ct 123 [.int .i64 n,.slice ad 64 c,.int .u64 0] [O] fun u Bs=>∃ba c' D,u = .slice ba (l7 n 0 qs []).length c'/\az D 150 2 u (l7 n 0 qs []).length ((l7 n 0 qs []).flatMap Sp.lay)/\Bs=[D,O]:=by
 obtain ⟨g,o,rfl⟩:=hR.addr oZ
 refine st Tryz.func123 fun w0 => ?_
 refine gl [0,1,2] (fun ((i,v7,_):Nat×Value×List Sp×Chunk)=>[(8,.int .i64 i),(7,v7)]) (fun (_,_,_,D)=>[D]) (fun (i,v7,out,D)=>i<=64/\(∃sN c7,v7 = .slice sN out.length c7)/\az D 150 2 v7 out.length (out.flatMap Sp.lay)/\LY out i/\l7 n i (qs.drop i) out=l7 n 0 qs []) (fun (i,_)=>64 - i) (0,.slice none 0 0,[],[]) ⟨by omega,⟨none,0,rfl⟩,az.nil _ _,⟨by simp,by simp⟩,rfl⟩ ?_
 rintro ⟨i,v7,out,D⟩ ⟨hi,⟨sN,c7,rfl⟩,hD,hO,cu⟩
 have Gy:=hO.len
 by_cases Gh:i<64/\1024*i<n
 ·have bo:i<qs.length:=by omega
  obtain ⟨q,YK⟩:∃q,q=qs[i]:=⟨_,rfl⟩
  have hx:(qs.map qP)[i]? = some (qP q):=by rw [YK];simp [List.getElem?_eq_getElem bo]
  have hs:=ar Pt.aj (qs.map qP) i _ hx
  rw [List.drop_eq_getElem_cons bo,<-YK,l7,if_neg oZ] at cu
  have aQ:=hO.add (m:=min 1024 (n - i*1024)) oZ
  rw [Nat.mul_comm i 1024] at cu aQ
  have hdv:i<=(n - 1) / 1024:=by omega
  clear YK hx
  cases q
  ·refine gn ?_
   exact ⟨(i+1,_,out,D),⟨by omega,⟨sN,c7,rfl⟩,hD,hO.up,cu⟩,by simp only;omega,aq,_,aa⟩
  ·simp only [if_true] at cu
   have hs3:=hs 3 _ rfl
   refine gi ?_ ?_ <;> intro AY
   ·obtain ⟨m,hm⟩:∃m,m=n - 1024*i:=⟨_,rfl⟩
    rw [show min 1024 (n - 1024*i)=m by omega] at cu aQ
    refine go ?_
    rw [<-hm]
    have LI:LY (Gx out (1024*i:Nat) (m:Int)) (i+1):=aQ
    by_cases h0:0<out.length
    ·obtain ⟨nK,c8,r,hv,rfl,F7,lS,tc⟩:=hD.opened oZ
     cases hv
     have hz:=mG h0
     have lU:=ar Sp.aj out (out.length - 1) _ hz
     have TG:=hO.last h0
     have cV:=fun mm=>vH (g:=nK) (T:=150) (m:=mm) h0 F7 lS tc
     obtain ⟨z,Iy⟩:∃z,z=fD out:=⟨_,rfl⟩
     rw [<-Iy] at lU TG cV
     have Yx:IntKind.i64.wrap (z.at_+z.many)=z.at_+z.many:=IntWalk.i64_in _ oZ
     have N8:IntKind.i64.wrap (z.many+(m:Int))=z.many+(m:Int):=IntWalk.i64_in _ oZ
     have jo:=dy out
     have OJ:(out.flatMap Sp.lay++r)[(out.length - 1)*2+0]? = some (.int .i64 z.at_):=by rw [List.getElem?_append_left oZ];exact lU 0 _ rfl
     have OK:(out.flatMap Sp.lay++r)[(out.length - 1)*2+1]? = some (.int .i64 z.many):=by rw [List.getElem?_append_left oZ];exact lU 1 _ rfl
     refine gi ?_ ?_ <;> intro hj
     ·rw [vE h0 (by rw [<-Iy];omega),<-Iy] at cu aQ
      refine gn ?_
      exact ⟨(i+1,_,out.set (out.length - 1) ⟨z.at_,z.many+(m:Int)⟩,[(nK,av ((out.flatMap Sp.lay++r).set ((out.length - 1)*2+1) (.int .i64 (z.many+(m:Int)))) 150)]),⟨by omega,⟨_,c7,by rw [List.length_set]⟩,by rw [List.length_set];exact cV _,aQ,cu⟩,by simp only;omega,aq,_,aa⟩
     ·rw [np (by rw [<-Iy];omega)] at cu aQ
      refine gm ?_;intro b0
      refine gp ?_;intro yd c8 D8 OL
      refine gn ?_
      exact ⟨(i+1,_,out++[⟨(1024*i:Nat),(m:Int)⟩],D8),⟨by omega,⟨yd,c8,by rw [List.length_append]⟩,by simpa [Sp.lay] using OL,aQ,cu⟩,by simp only;omega,aq,_,aa⟩
    ·rw [np oZ] at cu aQ
     refine gm ?_;intro b0
     refine gp ?_;intro yd c8 D8 OL
     refine gn ?_
     exact ⟨(i+1,_,out++[⟨(1024*i:Nat),(m:Int)⟩],D8),⟨by omega,⟨yd,c8,by rw [List.length_append]⟩,by simpa [Sp.lay] using OL,aQ,cu⟩,by simp only;omega,aq,_,aa⟩
   ·rw [show min 1024 (n - 1024*i)=1024 by omega] at cu aQ
    have LI:LY (Gx out (1024*i:Nat) (1024:Int)) (i+1):=aQ
    by_cases h0:0<out.length
    ·obtain ⟨nK,c8,r,hv,rfl,F7,lS,tc⟩:=hD.opened oZ
     cases hv
     have hz:=mG h0
     have lU:=ar Sp.aj out (out.length - 1) _ hz
     have TG:=hO.last h0
     have cV:=fun mm=>vH (g:=nK) (T:=150) (m:=mm) h0 F7 lS tc
     obtain ⟨z,Iy⟩:∃z,z=fD out:=⟨_,rfl⟩
     rw [<-Iy] at lU TG cV
     have Yx:IntKind.i64.wrap (z.at_+z.many)=z.at_+z.many:=IntWalk.i64_in _ oZ
     have N8:IntKind.i64.wrap (z.many+(1024:Int))=z.many+(1024:Int):=IntWalk.i64_in _ oZ
     have jo:=dy out
     have OJ:(out.flatMap Sp.lay++r)[(out.length - 1)*2+0]? = some (.int .i64 z.at_):=by rw [List.getElem?_append_left oZ];exact lU 0 _ rfl
     have OK:(out.flatMap Sp.lay++r)[(out.length - 1)*2+1]? = some (.int .i64 z.many):=by rw [List.getElem?_append_left oZ];exact lU 1 _ rfl
     refine gi ?_ ?_ <;> intro hj
     ·rw [vE h0 (by rw [<-Iy];omega),<-Iy] at cu aQ
      refine gn ?_
      exact ⟨(i+1,_,out.set (out.length - 1) ⟨z.at_,z.many+(1024:Int)⟩,[(nK,av ((out.flatMap Sp.lay++r).set ((out.length - 1)*2+1) (.int .i64 (z.many+(1024:Int)))) 150)]),⟨by omega,⟨_,c7,by rw [List.length_set]⟩,by rw [List.length_set];exact cV _,aQ,cu⟩,by simp only;omega,aq,_,aa⟩
     ·rw [np (by rw [<-Iy];omega)] at cu aQ
      refine gm ?_;intro b0
      refine gp ?_;intro yd c8 D8 OL
      refine gn ?_
      exact ⟨(i+1,_,out++[⟨(1024*i:Nat),(1024:Int)⟩],D8),⟨by omega,⟨yd,c8,by rw [List.length_append]⟩,by simpa [Sp.lay] using OL,aQ,cu⟩,by simp only;omega,aq,_,aa⟩
    ·rw [np oZ] at cu aQ
     refine gm ?_;intro b0
     refine gp ?_;intro yd c8 D8 OL
     refine gn ?_
     exact ⟨(i+1,_,out++[⟨(1024*i:Nat),(1024:Int)⟩],D8),⟨by omega,⟨yd,c8,by rw [List.length_append]⟩,by simpa [Sp.lay] using OL,aQ,cu⟩,by simp only;omega,aq,_,aa⟩
 ·have nE:l7 n 0 qs []=out:=by
   rw [<-cu]
   by_cases h64:i<64
   ·have bo:i<qs.length:=by omega
    rw [List.drop_eq_getElem_cons bo,l7,if_pos oZ]
   ·rw [List.drop_eq_nil_of_le oZ,l7]
  rw [nE]
  by_cases h64:i<64
  ·have hdv:n=0\/(n - 1) / 1024<i:=by omega
   rcases hdv with rfl | hdv
   ·refine gz ?_
    exact fin ⟨sN,c7,D,rfl,hD,rfl⟩ aa
   ·by_cases hn0:n=0
    ·subst hn0
     refine gz ?_
     exact fin ⟨sN,c7,D,rfl,hD,rfl⟩ aa
    ·refine gz ?_
     exact fin ⟨sN,c7,D,rfl,hD,rfl⟩ aa
  ·obtain rfl:i=64:=by omega
   refine gz ?_
   exact fin ⟨sN,c7,D,rfl,hD,rfl⟩ aa
theorem Iz (l:List Sp)(n:Nat)(hn:l.length=n)(D1 D2:Chunk)(iI ad2:Option Addr)(c1 c2:Nat)(h1:Rd D1 2 (.slice iI n c1) n (l.flatMap Sp.lay))(h2:Rd D2 2 (.slice ad2 n c2) n (l.flatMap Sp.lay)) :
  Ct 64 [.slice iI n c1,.slice ad2 n c2] [D1,D2] fun u Bs=>u = .bool true/\Bs=[D1,D2]:=by
 have FY:=h1.2.2.1
 simp only [maxLen] at FY
 refine st Tryz.func64 fun w0 => ?_
 refine gl [0,1] (fun (i:Nat)=>[(5,.int .i64 i)]) (fun _=>[]) (fun i=>i<=n) (fun i=>n - i) 0 oZ ?_
 rintro i hi
 refine gi ?_ ?_ <;> intro bh
 ·obtain ⟨g1,o1,rfl⟩:=h1.addr oZ
  obtain ⟨g2,o2,rfl⟩:=h2.addr oZ
  have hs:=ar Sp.aj l i _ (List.getElem?_eq_getElem oZ)
  refine gi ?_ ?_ <;> intro hb
  ·simp at hb
  ·refine gn ?_
   exact ⟨i+1,by omega,by omega,aq,_,aa⟩
 ·obtain rfl:i=n:=by omega
  refine gz ?_
  exact fin ⟨rfl,rfl⟩ aa
end Go.Proofs.YtcfioaeamfappaaGreatDoor
