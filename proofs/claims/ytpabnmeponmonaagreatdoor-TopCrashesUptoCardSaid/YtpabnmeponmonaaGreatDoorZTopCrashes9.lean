/-
  9.
-/
import Derived.Test.YtpabnmeponmonaaGreatDoorZTopCrashes8
set_option maxRecDepth 10000
set_option maxHeartbeats 4000000
open List Go.Proofs.Tryz Go.Sl
namespace Go.Sl
theorem UO {l:fj}(h:wm l=0){i:Nat}{t:Tp}(ht:l.aN[i]? = some t):K5 (aE (dW l)) (15+6*i)=t:=by
 obtain ⟨hh,hm⟩:=(iG l).1 h
 have f5:=AG [] (replicate (96 - (dW l).length) 0) l.aN (Jk l) (q:=15) (lZ l) hm
 have hx:aE (dW l)=Jk l++(l.aN.flatMap xZ++replicate (96 - (dW l).length) 0):=by rw [aE,dW,append_assoc]
 rw [<-hx] at f5
 obtain ⟨hi,rfl⟩:=List.getElem?_eq_some_iff.1 ht
 have:=congrArg (·[i]?) f5
 simpa [hi] using this
theorem P9 {l:List Tp}{i:Nat}{t:Tp}(h:l[i]? = some t):(l.take (i+1)).flatMap Tp.lay=(l.take i).flatMap Tp.lay++t.lay:=by
 obtain ⟨hi,rfl⟩:=List.getElem?_eq_some_iff.1 h
 rw [take_succ_eq_append_getElem hi,flatMap_append];simp
end Go.Sl
namespace Go.Proofs.YtpabnmeponmonaaGreatDoor
theorem Hl (T:TypeId)(fr:Nat×Nat)(O:Chunk)(ad:Option Addr)(c:Nat)(l:fj)(h:wm l=0)(ho:l.Ok)(hc:128<=c)(hO:Rd O 1 (.slice ad 128 c) 128 (au (whole (dW l)))):Ct 143 [.slice ad 128 c] [gK T fr,O] fun u Bs=>∃v D,u = .tuple #[ns l v,.int .i64 0]/\aC D 23 3 v l.aN.length (l.aN.flatMap Tp.lay)/\Bs=[D,gK T fr,O]:=by
 have hl:=jS l
 obtain ⟨hh,Cn⟩:=(iG l).1 h
 obtain ⟨m1,m2,m3,m4,m5,m6⟩:=hh
 obtain ⟨o1,o2⟩:=iA (x:=dW l) (letters:=iO) oZ rfl ⟨_,by rw [dW,Jk,append_assoc]⟩
 have mI:=qJ T fr O ad c _ iO (gE oZ) hc rfl hO
 rw [o1,o2] at mI
 have ic:=Px h ho
 have hp:(aE (dW l)).length=96:=ep oZ
 have a1:numOf (cut (aE (dW l)) 4 8)=l.pool:=congrArg fj.pool ic
 have a2:((numOf (cut (aE (dW l)) 12 1):Nat):Int)=l.top:=congrArg fj.top ic
 have a3:((numOf (cut (aE (dW l)) 13 1):Nat):Int)=l.place:=congrArg fj.place ic
 have a4:numOf (cut (aE (dW l)) 14 1)=l.aN.length:=by
  have:=congrArg (fun x=>x.aN.length) ic
  rw [show (G0 (aE (dW l))).aN.length=nm (aE (dW l)) 14 1 by simp [G0]] at this;exact this
 have b2:numOf (cut (aE (dW l)) 12 1)<256:=(Un (aE (dW l)) 12).1
 have b3:numOf (cut (aE (dW l)) 13 1)<256:=(Un (aE (dW l)) 13).1
 refine st func143 fun w0 => ?_
 refine ga ?_;intro b2
 refine gc mI ?_
 rintro _ _ ⟨w,rfl,hw,rfl⟩
 have hw:=hw rfl
 obtain ⟨ad2,c2,rfl⟩:=hw.slice
 refine ge ?_
 refine ga ?_;intro b8
 refine ga ?_;intro xX
 refine gc (sC (aE (dW l)) 96 hp oZ O _ hw) ?_
 rintro _ _ ⟨p,A,rfl,hA,rfl⟩
 refine ge ?_
 refine ga ?_;intro d2
 refine gc (qF p (aE (dW l)) 0 4 A hA oZ) ?_
 rintro _ _ ⟨A1,b1,rfl,mV,rfl⟩
 refine gc (cw p (aE (dW l)) 4 8 A1 mV oZ oZ) ?_
 rintro _ _ ⟨A2,rfl,l4,rfl⟩
 refine gc (cw p (aE (dW l)) 12 1 A2 l4 oZ oZ) ?_
 rintro _ _ ⟨A3,rfl,wv,rfl⟩
 refine gc (cw p (aE (dW l)) 13 1 A3 wv oZ oZ) ?_
 rintro _ _ ⟨A4,rfl,x4,rfl⟩
 refine ga ?_;intro d3
 refine gc (cw p (aE (dW l)) 14 1 A4 x4 oZ oZ) ?_
 rintro _ _ ⟨A5,rfl,Ga,rfl⟩
 rw [a1,a2,a3,a4]
 refine gl [0,2,3,24] (fun ((i,_):Nat×Chunk×Value×Chunk)=>[(25,.int .i64 i)]) (fun (_,A,v,D)=>[A,[(d3,ax [.int .u64 l.pool,v,.int .i64 l.top,.int .i64 l.place] 106)],D]) (fun (i,A,v,D)=>i<=l.aN.length/\pH p (aE (dW l)) (15+6*i) 0 A/\aC D 23 3 v i ((l.aN.take i).flatMap Tp.lay)) (fun (i,_)=>l.aN.length - i) (0,A5,.slice none 0 0,[]) ⟨by omega,Ga,aC.nil _ _⟩ ?_
 rintro ⟨i,A,v,D⟩ ⟨hi,hA,hD⟩
 refine gi ?_ ?_ <;> intro br
 ·obtain ⟨t,ht⟩:=eC (l:=l.aN) (i:=i) oZ
  have ic:=UO h ht
  have c1:((numOf (cut (aE (dW l)) (15+6*i) 1):Nat):Int)=t.kind:=congrArg Tp.kind ic
  have c2:((numOf (cut (aE (dW l)) (15+6*i+1) 1):Nat):Int)=t.leaves:=congrArg Tp.leaves ic
  have c3:((numOf (cut (aE (dW l)) (15+6*i+1+1) 4):Nat):Int)=t.bE:=congrArg Tp.bE ic
  have e1:numOf (cut (aE (dW l)) (15+6*i) 1)<256:=(Un (aE (dW l)) (15+6*i)).1
  have e2:numOf (cut (aE (dW l)) (15+6*i+1) 1)<256:=(Un (aE (dW l)) (15+6*i+1)).1
  have e3:numOf (cut (aE (dW l)) (15+6*i+1+1) 4)<4294967296:=(Un (aE (dW l)) (15+6*i+1+1)).2.2.1
  have Lb:=P9 ht
  refine rQ [[(d3,ax [.int .u64 l.pool,v,.int .i64 l.top,.int .i64 l.place] 106)]] [0,4,8,20,32,13,16,25,28,37,40,44,49,53,56,63] ?_
  refine gc (cw p (aE (dW l)) (15+6*i) 1 A hA oZ oZ) ?_
  rintro _ _ ⟨A1,rfl,mV,rfl⟩
  refine gc (cw p (aE (dW l)) (15+6*i+1) 1 A1 mV oZ oZ) ?_
  rintro _ _ ⟨A2,rfl,l4,rfl⟩
  refine gc (cw p (aE (dW l)) (15+6*i+1+1) 4 A2 l4 oZ oZ) ?_
  rintro _ _ ⟨A3,rfl,wv,rfl⟩
  refine gm ?_;intro g5
  rw [c1,c2,c3]
  have XA:Rd [(g5,ax t.lay 23)] 3 (.slice (some ⟨g5,0,none⟩) 1 1) 1 t.lay:=ay (Tp.ak t) t.bK oZ _
  refine gp ?_;intro ia c3 C3 kP
  rw [<-Lb] at kP
  refine gn ?_
  exact ⟨(i+1,A3,_,C3),⟨by omega,by rw [show 15+6*(i+1)=15+6*i+1+1+4 by omega];exact wv,kP⟩,sOZ,ar,_,aa⟩
 ·obtain rfl:i=l.aN.length:=oZ
  rw [take_length] at hD
  have Ee:=sE D v l _ rfl hD.rd
  obtain ⟨tT,c7,rfl⟩:=hD.slice
  rw [h] at Ee
  refine ga ?_;intro Td
  have hP:=GU p (aE (dW l)) (15+6*l.aN.length) A hA oZ
  rw [hp,wz hl] at hP
  refine gc hP ?_
  rintro _ _ ⟨A6,Tc,rfl⟩
  have hDn:=uu p (aE (dW l)) 96 0 A6 Tc oZ
  rw [hp] at hDn
  refine gc hDn ?_
  rintro _ _ ⟨rfl,rfl⟩
  refine gc Ee ?_
  rintro _ _ ⟨rfl,rfl⟩
  refine gz ?_
  exact fin ⟨_,D,rfl,hD,rfl⟩ aa
theorem ma (D:Chunk)(ad:Option Addr)(m c:Nat)(xs:List Value)(hD:aC D 23 3 (.slice ad m c) m xs)(hm:1<=m/\m<=1000):Ct 34 [.slice ad m c] [D] fun u Bs=>∃bz c' D',u = .slice bz m c'/\aC D' 23 3 (.slice bz m c') m xs/\Bs=[D',D]:=by
 obtain ⟨g,c0,r,hv,rfl, -⟩:∃g c0 r,Value.slice ad m c = .slice (some ⟨g,0,none⟩) m c0/\D=[(g,ax (xs++r) 23)]/\True:=by
  rcases hD.2.2 with ⟨h1,h2,h3⟩ | ⟨g,c0,r,h1,h2,h3⟩
  ·omega
  ·exact ⟨g,c0,r,h1,h2,trivial⟩
 cases hv
 have hR:=hD.rd
 refine st func34 fun w0 => ?_
 refine gm ?_;intro b
 have hB:aC [(b,ax [] 23)] 23 3 (.slice (some ⟨b,0,none⟩) 0 0) 0 []:=⟨rfl,by simp,.inr ⟨b,0,[],rfl,rfl,by omega,by simp [maxLen],rfl⟩⟩
 refine gp ?_;intro bz c' C' bF
 rw [Nat.zero_add,nil_append] at bF
 refine gz ?_
 exact fin ⟨bz,c',C',by rw [Nat.zero_add],bF,rfl⟩ aa
theorem Qa (a q:Nat)(l:fj)(L:Chunk)(hL:PL a q l L)(hm:1<=l.aN.length/\l.aN.length<=1000):Ct 74 [ptr a] [L] fun u Bs=>∃ad c D,u=ns l (.slice ad l.aN.length c)/\aC D 23 3 (.slice ad l.aN.length c) l.aN.length (l.aN.flatMap Tp.lay)/\Bs=[D,L]:=by
 obtain ⟨ad,c,D,z1,z2,z3,hD,rfl⟩:=hL
 refine st func74 fun w0 => ?_
 refine gs ?_
 refine ga ?_;intro b2
 refine ga ?_;intro b3
 refine gc (ma D ad _ c _ hD hm) ?_
 rintro _ _ ⟨bz,c',D',rfl,eJ,rfl⟩
 refine gz ?_
 exact fin ⟨bz,c',D',rfl,eJ,rfl⟩ aa
section
variable (T:TypeId)(fr:Nat×Nat)(p:Nat)(qs:List Nat)(R:Rk)(C:Chunk)(hC:bj p qs R C)(i q n:Nat)(hq:qs[i]? = some q)(hl:R.live i)(ho:R.off=false)(hn:R.size i=n)(h:324<=n/\n<=8192)
include hC hq hl hn h ho
theorem UP (l:fj)(he:wm l=0)(hk:l.Ok)(hs:∀t,l.aN[l.top.toNat]? = some t->t.bE=n)(k0:Nat)(xT:k0<4)(gf:∀k,k<k0->fU (R.now i (ez n k)) iO=false)(ZH:R.now i (ez n k0)=whole (dW l)) :
  Ct 73 [ptr q] [gK T fr,C] fun u Bs=>∃a L,u = .tuple #[ptr a,.int .i64 0]/\PL a q l L/\Bs=[L,gK T fr,C]:=by
 obtain ⟨hh,Cn⟩:=(iG l).1 he
 obtain ⟨m1,m2,m3,m4,m5,m6⟩:=hh
 obtain ⟨tn,Z7⟩:∃k:Nat,l.top=k:=⟨l.top.toNat,by omega⟩
 have Lb:tn<l.aN.length:=oZ
 have hts:=hs _ (by rw [Z7,Int.toNat_natCast];exact getElem?_eq_getElem Lb)
 have hx:=av Tp.ak l.aN tn _ (getElem?_eq_getElem Lb) 2 _ rfl
 rw [hts] at hx
 refine st func73 fun w0 => ?_
 refine gc (da p qs R C hC i q hq) ?_
 rintro _ _ ⟨rfl,rfl⟩
 rw [hn]
 refine gc (qQ p qs R C hC i q n hq hn h) ?_
 rintro _ _ ⟨rfl,rfl⟩
 refine gl [0,14] (fun k:Nat=>[(15,.int .i64 k)]) (fun _=>[]) (fun k=>k<=k0) (fun k=>k0 - k) 0 (Nat.zero_le _) ?_
 intro k nD
 have Nr:k<4:=oZ
 have Gc:=AP n Nr
 have mU:=AO (k:=k) h.1
 have vV:=lq hC.ok (i:=i) (a:=ez n k) oZ
 obtain ⟨lV,fS⟩:=vV
 refine gc (n0 p qs R C hC i q (ez n k) 1 hq hl oZ) ?_
 rintro _ _ (⟨dS,rfl,rfl⟩ | ⟨-,g,rfl,rfl⟩)
 ·rw [ho] at dS;cases dS
 rw [lV]
 have hg:Rd [(g,ax (au (R.now i (ez n k))) 5)] 1 (.slice (some ⟨g,0,none⟩) 128 128) 128 (au (R.now i (ez n k))):=ay (by rw [aq,fS]) (aP _) oZ _
 rcases Nat.lt_or_ge k k0 with br | yS
 ·refine gc (Ec T fr _ _ 128 _ fS oZ hg (gf k br)) ?_
  rintro _ _ ⟨rfl,rfl⟩
  refine ga ?_;intro b8
  refine gd [0,4,8,12,16,20,24,28,32,36,40,45,48,52] ?_
  refine gn ?_
  exact ⟨k+1,by omega,by omega,ar,_,aa⟩
 ·obtain rfl:k=k0:=oZ
  rw [ZH] at hg ⊢
  have aco:=Hl T fr _ _ 128 l he hk oZ hg
  simp only [ns,Z7] at aco
  refine gc aco ?_
  rintro _ _ ⟨v,D,rfl,hD,rfl⟩
  obtain ⟨kK,cv,rfl⟩:=hD.slice
  obtain ⟨gv',ae6,rfl⟩:=hD.rd.addr oZ
  have jW:=hD.rd
  refine ga ?_;intro b8
  refine gd [0,4,8,12,16,20,24,28,32,36,40,45,48,52] ?_
  refine gc (da p qs R C hC i q hq) ?_
  rintro _ _ ⟨rfl,rfl⟩
  rw [hn]
  refine ga ?_;intro a
  refine gz ?_
  exact fin ⟨a,[(a,XB q l (.slice (some ⟨gv',ae6,none⟩) l.aN.length cv) 0 0 0)]++D,rfl,⟨_,cv,D,0,0,0,hD,rfl⟩,rfl⟩ (by simp only [XB,Z7];exact aa)
end
end Go.Proofs.YtpabnmeponmonaaGreatDoor
namespace Go.Sl
def aL (pr:Bool)(w b:Nat):Nat:=if pr then dU w b else aF b
def bD (pr:Bool)(w n:Nat):Nat:=if pr then w*(n - 292) else n - 292
def qf (pr:Bool)(ls:List (Option Lv))(at_:Nat)(b:List UInt8):List Ev:=if pr then upto (oN ls at_ b) (dU ls.length b.length) else upto (oM ls at_ b) ls.length
def wQ (pr:Bool)(R:Rk)(ls:List (Option Lv))(at_:Nat)(b:List UInt8):Prop :=
 if pr then ∀(j:Nat) (s:eE) (x:Lv),(jy ls.length b)[j]? = some s->ls[(at_+j) % ls.length]? = some (some x)->R.now x.i (274+(at_+j) / ls.length)=s
 else ∀x,some x∈ls->R.sK x.i (274+at_) (aF b.length)=j5 b
def de (ls:List (Option Lv)):List Ev:=upto (nz ls) ls.length
end Go.Sl
namespace Go.Proofs.YtpabnmeponmonaaGreatDoor
abbrev JA (pr:Bool)(m:Nat):Value:=match pr with
 | true=>.iface 187 (ptr m)
 | false=>.iface 191 (ptr m)
def DvC (pr:Bool)(m:Nat)(ls:List (Option Lv))(sz:Nat)(M:Chunk):Prop:=match pr with
 | true=>LB m ls sz M
 | false=>Lu m ls (replicate ls.length none) sz M
abbrev EI (pool:Nat)(vT vI vL vD:Value)(no:Nat):Obj:=ax [.int .u64 pool,vT,vI,vL,vD,.int .u64 no] 103
def iZ (t pool:Nat)(tp:Tp)(pr:Bool)(n:Nat)(ls:List (Option Lv))(no:Nat)(V:Chunk):Prop:=∃m M jj cT DT eb cI DI kB cL DL pO cl Dl vD DD L,
 aC DT 23 3 (.slice jj 1 cT) 1 tp.lay/\aC DI 195 1 (.slice eb 1 cI) 1 [JA pr m] /\
 aC DL 113 1 (.slice kB 1 cL) 1 [.slice pO ls.length cl]/\aC Dl 110 1 (.slice pO ls.length cl) ls.length (ls.map iQ) /\
 DvC pr m ls (n - 292) M/\iR (fun k=>⟨pool,[tp],0,k⟩) 0 ls L /\
 V=[(t,EI pool (.slice jj 1 cT) (.slice eb 1 cI) (.slice kB 1 cL) vD no)]++(DT++(DI++(DL++(Dl++(DD++(M++L))))))
structure dj (tp:Tp)(pr:Bool)(n w:Nat):Prop where
 hn:324<=n/\n<=8192
 hw:1<=w/\w<=5
 hp:pr=true->3<=w
 ht:tp=⟨tp.kind,w,n⟩
 hk:pr=decide (tp.kind=3)
section
variable (t pool:Nat)(tp:Tp)(pr:Bool)(n:Nat)(ls:List (Option Lv))(no:Nat)(V:Chunk)(hV:iZ t pool tp pr n ls no V)(ok:dj tp pr n ls.length)
include hV
theorem AU:Ct 166 [ptr t,.int .i64 0] [V] fun u Bs=>u = .bool true/\Bs=[V]:=by
 obtain ⟨m,M,jj,cT,DT,eb,cI,DI,kB,cL,DL,pO,cl,Dl,vD,DD,L,hT,hI,xW,hl,hM,hL,rfl⟩:=hV
 refine st func166 fun w0 => ?_
 refine gs ?_
 refine gz ?_
 exact fin ⟨rfl,rfl⟩ aa
theorem AV:Ct 106 [ptr t] [V] fun u Bs=>∃ad c D,u = .slice ad 1 c/\aC D 23 3 (.slice ad 1 c) 1 tp.lay/\Bs=[D,V]:=by
 obtain ⟨m,M,jj,cT,DT,eb,cI,DI,kB,cL,DL,pO,cl,Dl,vD,DD,L,hT,hI,xW,hl,hM,hL,rfl⟩:=hV
 refine st func106 fun w0 => ?_
 refine gs ?_
 refine gc (ma DT jj 1 cT _ hT oZ) ?_
 rintro _ _ ⟨ad,c,D,rfl,hD,rfl⟩
 refine gz ?_
 exact fin ⟨ad,c,D,rfl,hD,rfl⟩ aa
include ok
theorem JB:Ct 107 [ptr t,.int .i64 0] [V] fun u Bs=>u = .int .i64 (bD pr ls.length n:Nat)/\Bs=[V]:=by
 have hh:=AU t pool tp pr n ls no V hV
 refine st func107 fun w0 => ?_
 refine gc hh ?_
 rintro _ _ ⟨rfl,rfl⟩
 obtain ⟨m,M,jj,cT,DT,eb,cI,DI,kB,cL,DL,pO,cl,Dl,vD,DD,L,hT,hI,xW,hl,hM,hL,rfl⟩:=hV
 have Qb:=hI.rd
 obtain ⟨gI,oI,rfl⟩:=Qb.addr oZ
 refine gs ?_
 cases pr with
 | true =>
  have bX:[JA true m][0]? = some (.iface 187 (ptr m)):=rfl
  obtain ⟨ad,c,Cv,g,pN,rfl⟩:=hM
  have h3:=ok.hp rfl
  refine gs ?_
  refine gj (Ju m ad ls.length c (.slice (some ⟨g,0,none⟩) ls.length ls.length) (n - 292) ⟨h3,ok.hw.2⟩ (by have:=ok.hn;omega)) ?_
  rintro _ _ ⟨rfl,rfl⟩
  refine gz ?_
  exact fin ⟨rfl,rfl⟩ aa
 | false =>
  have bX:[JA false m][0]? = some (.iface 191 (ptr m)):=rfl
  obtain ⟨ad,c,Cv,g,pN,iy,rfl⟩:=hM
  have bu:Ct 350 [ptr m] [[(m,AR (.slice ad ls.length c) (.slice (some ⟨g,0,none⟩) ls.length ls.length) ((n - 292:Nat):Int))]] fun u Bs=>u = .int .i64 ((n - 292:Nat):Int)/\Bs=[[(m,AR (.slice ad ls.length c) (.slice (some ⟨g,0,none⟩) ls.length ls.length) ((n - 292:Nat):Int))]]:=by
   refine st func350 fun w0 => ?_
   refine gz ?_
   exact fin ⟨rfl,rfl⟩ aa
  refine gs ?_
  refine gj bu ?_
  rintro _ _ ⟨rfl,rfl⟩
  refine gz ?_
  exact fin ⟨rfl,rfl⟩ aa
theorem AW (b:Nat)(hb:1<=b/\b<=1024):Ct 108 [ptr t,.int .i64 0,.int .i64 b] [V] fun u Bs=>u = .int .i64 (aL pr ls.length b:Nat)/\Bs=[V]:=by
 have hh:=AU t pool tp pr n ls no V hV
 refine st func108 fun w0 => ?_
 refine gc hh ?_
 rintro _ _ ⟨rfl,rfl⟩
 obtain ⟨m,M,jj,cT,DT,eb,cI,DI,kB,cL,DL,pO,cl,Dl,vD,DD,L,hT,hI,xW,hl,hM,hL,rfl⟩:=hV
 have Qb:=hI.rd
 obtain ⟨gI,oI,rfl⟩:=Qb.addr oZ
 refine gs ?_
 cases pr with
 | true =>
  have bX:[JA true m][0]? = some (.iface 187 (ptr m)):=rfl
  obtain ⟨ad,c,Cv,g,pN,rfl⟩:=hM
  have h3:=ok.hp rfl
  refine gs ?_
  refine gj (AS m ad ls.length c (.slice (some ⟨g,0,none⟩) ls.length ls.length) ((n - 292:Nat):Int) ⟨h3,ok.hw.2⟩ b hb) ?_
  rintro _ _ ⟨rfl,rfl⟩
  refine gz ?_
  exact fin ⟨rfl,rfl⟩ aa
 | false =>
  have bX:[JA false m][0]? = some (.iface 191 (ptr m)):=rfl
  refine gj (qR m b hb) ?_
  rintro _ _ ⟨rfl,rfl⟩
  refine gz ?_
  exact fin ⟨rfl,rfl⟩ aa
end
end Go.Proofs.YtpabnmeponmonaaGreatDoor
namespace Go.Sl
def Hm (at_ ae:Nat)(b:List UInt8)(kind:Int):Pt:=⟨0,at_,b.length,ae,kind,(jt kind b).1.a,(jt kind b).1.b,(jt kind b).1.c,(jt kind b).1.d⟩
theorem JC {pr:Bool}{ls:List (Option Lv)}{at_:Nat}{b:List UInt8}(hb:1<=b.length/\b.length<=1024)(hl:ls.length<=5)(hp:pr=true->3<=ls.length):(qf pr ls at_ b).length<=40:=by
 cases pr with
 | true =>
  have h1:=nB (hp rfl) hb
  have h2:=bY (EC ls at_ b) (dU ls.length b.length)
  simp only [qf,if_true];omega
 | false =>
  have h2:=bY (Es ls at_ hb.2) ls.length
  simp only [qf];simp;omega
end Go.Sl
namespace Go.Proofs.YtpabnmeponmonaaGreatDoor
section
variable (T:TypeId)(fr:Nat×Nat)(p:Nat)(qs:List Nat)(t pool:Nat)(tp:Tp)(pr:Bool)(n:Nat)(ls:List (Option Lv))(no:Nat)(V:Chunk)(hV:iZ t pool tp pr n ls no V)(ok:dj tp pr n ls.length)(R:Rk)(C:Chunk)(hC:bj p qs R C)(ho:dE qs R n ls)(hall:∀x∈ls,x≠none)
include hV ok hC ho hall
theorem Qc (at_ ae:Nat)(b:List UInt8)(k:Nat)(hk:b.length=k)(hb:1<=k/\k<=1024)(kind:Int)(Gi:kind=1\/kind=2)(hf:at_+aL pr ls.length k<=bD pr ls.length n)(ht:1<=ae/\ae<=281474976710656)(O:Chunk)(v:Value)(hO:Rd O 1 v k (au b))(hw:R.ws.length+40<=900000000000) :
  Ct 190 [ptr t,.int .i64 0,.int .i64 at_,v,.int .i64 kind,.int .u64 ae] [gK T fr,C,V,O] fun u Bs=>∃C',u = .tuple #[(if (R.run (qf pr ls at_ b)).off then ai else Hm at_ ae b kind).agg,.int .i64 (if (R.run (qf pr ls at_ b)).off then 5 else 0)]/\bj p qs (R.run (qf pr ls at_ b)) C'/\Bs=[gK T fr,C',V,O]:=by
 have hh:=AU t pool tp pr n ls no V hV
 have hs:=AD T fr O v b k hk hO oZ kind
 obtain ⟨kK,cv,rfl⟩:=hO.slice
 have xT:(jt kind b).2=0:=DY.2 Gi
 rw [xT] at hs
 obtain ⟨pW,hpW⟩:∃q,q=Hm at_ ae b kind:=⟨_,rfl⟩
 have hpa:pW.agg = .agg #[.int .i64 0,.int .i64 at_,.int .i64 k,.int .u64 ae,.int .i64 kind,.int .u64 (jt kind b).1.a,.int .u64 (jt kind b).1.b,.int .u64 (jt kind b).1.c,.int .u64 (jt kind b).1.d]:=by rw [hpW,<-hk];rfl
 rw [<-hpW]
 obtain ⟨sm,Cj⟩:∃s,s=(jt kind b).1:=⟨_,rfl⟩
 rw [<-Cj] at hs hpa
 refine st func190 fun w0 => ?_
 refine ga ?_;intro Td
 refine gc hh ?_
 rintro _ _ ⟨rfl,rfl⟩
 refine gc hs ?_
 rintro _ _ ⟨rfl,rfl⟩
 obtain ⟨m,M,jj,cT,DT,eb,cI,DI,kB,cL,DL,pO,cl,Dl,vD,DD,L,hT,hI,xW,hl,hM,hL,rfl⟩:=hV
 have Qb:=hI.rd
 obtain ⟨gI,oI,rfl⟩:=Qb.addr oZ
 have hn:=ok.hn
 have kA:=ok.hw
 refine gs ?_
 refine ga ?_;intro Z5
 cases pr with
 | true =>
  have bX:[JA true m][0]? = some (.iface 187 (ptr m)):=rfl
  have h3:=ok.hp rfl
  have mX:=PX p qs m n ls _ hn ⟨h3,kA.2⟩ R C M L hC hM hL ho hall at_ ae b k hk hb hf ht O _ hO hw
  have hd:qf true ls at_ b=upto (oN ls at_ b) (dU ls.length k):=by rw [qf,if_pos rfl,hk]
  rw [<-hd] at mX
  refine gj mX ?_
  rintro _ _ ⟨C',rfl,bF,rfl⟩
  cases dS:(R.run (qf true ls at_ b)).off with
  | true =>
   refine gz ?_
   exact fin ⟨C',rfl,bF,rfl⟩ aa
  | false =>
   refine gz ?_
   exact fin ⟨C',by rw [if_neg (by simp),if_neg (by simp),hpa],bF,rfl⟩ aa
 | false =>
  have bX:[JA false m][0]? = some (.iface 191 (ptr m)):=rfl
  have hz:bD false ls.length n=n - 292:=rfl
  have Jj:aL false ls.length k=aF k:=rfl
  rw [hz,Jj] at hf
  have mX:=PQ p qs m n ls _ _ hn kA.2 R C M L hC hM hL ho hall kA.1 at_ ae b k hk hb oZ ht O _ hO hw
  have hd:qf false ls at_ b=upto (oM ls at_ b) ls.length:=by rw [qf,if_neg (by simp)]
  rw [<-hd] at mX
  refine gj mX ?_
  rintro _ _ ⟨C',rfl,bF,rfl⟩
  cases dS:(R.run (qf false ls at_ b)).off with
  | true =>
   refine gz ?_
   exact fin ⟨C',rfl,bF,rfl⟩ aa
  | false =>
   refine gz ?_
   exact fin ⟨C',by rw [if_neg (by simp),if_neg (by simp),hpa],bF,rfl⟩ aa
omit hC ho hall ok in
theorem Z8 (x:Pt)(hx:x.cJ)(h0:x.top=0):Ct 227 [ptr t,x.agg] [V] fun u Bs=>u = .bool true/\Bs=[V]:=by
 have hh:=AU t pool tp pr n ls no V hV
 have Qd:=kZ x (by unfold fK;rw [if_pos hx];simp)
 obtain ⟨h1,h2,h3,h4,h5,h6,h7,h8,h9⟩:=hx
 obtain ⟨tp',at_,fV,bi,kd,a,b,c,d⟩:=x
 simp only at *
 subst h0
 refine st func227 fun w0 => ?_
 refine ga ?_;intro b3
 refine gg ?_ ?_ <;> intro hz
 ·refine gc Qd ?_
  rintro _ _ ⟨rfl,rfl⟩
  refine gc hh ?_
  rintro _ _ ⟨rfl,rfl⟩
  refine gz ?_
  exact fin ⟨rfl,rfl⟩ aa
 ·simp at hz;omega
theorem UQ (db:R.off=false)(x:Pt)(hx:x.cJ)(h0:x.top=0)(at_:Nat)(ic:x.at_=at_)(b:List UInt8)(k:Nat)(hk:b.length=k)(hxk:x.bytes=k)(hf:at_+aL pr ls.length k<=bD pr ls.length n)(Ee:tS x.kind ⟨x.a,x.b,x.c,x.d⟩ b=true)(hh:wQ pr R ls at_ b) :
  Ct 150 [ptr t,x.agg] [gK T fr,C,V] fun u Bs=>∃ad O,u = .tuple #[.slice ad k k,.int .i64 0]/\Rd O 1 (.slice ad k k) k (au b)/\Bs=[O,gK T fr,C,V]:=by
 have hmy:=Z8 t pool tp pr n ls no V hV x hx h0
 obtain ⟨h1,h2,h3,h4,h5,h6,h7,h8,h9⟩:=hx
 obtain ⟨tp',at',fV,bi,kd,a,b',c,d⟩:=x
 simp only at *
 subst h0;subst ic;subst hxk
 obtain ⟨kn,rfl,AX⟩:∃n:Nat,kd=n/\(n=1\/n=2):=h9.elim (fun h=>⟨1,h,.inl rfl⟩) (fun h=>⟨2,h,.inr rfl⟩)
 refine st func150 fun w0 => ?_
 refine ga ?_;intro b3
 refine gc hmy ?_
 rintro _ _ ⟨rfl,rfl⟩
 obtain ⟨m,M,jj,cT,DT,eb,cI,DI,kB,cL,DL,pO,cl,Dl,vD,DD,L,hT,hI,xW,hl,hM,hL,rfl⟩:=hV
 have Qb:=hI.rd
 obtain ⟨gI,oI,rfl⟩:=Qb.addr oZ
 have hn:=ok.hn
 have kA:=ok.hw
 refine gs ?_
 refine gd [0,4,8,12,16,20,24,28,32,36,40,44,48,52,56,60,67,70,74,78,82] ?_
 cases pr with
 | true =>
  have bX:[JA true m][0]? = some (.iface 187 (ptr m)):=rfl
  have h3w:=ok.hp rfl
  rw [wQ,if_pos rfl] at hh
  have qd:=UI T fr p qs m n ls _ hn ⟨h3w,kA.2⟩ R C M L hC hM hL ho hall db at_ b k kn ⟨a,b',c,d⟩ hk oZ hf AX Ee hh
  refine gj qd ?_
  rintro _ _ ⟨ad,O,rfl,hO,rfl⟩
  refine gz ?_
  exact fin ⟨ad,O,rfl,hO,rfl⟩ aa
 | false =>
  have bX:[JA false m][0]? = some (.iface 191 (ptr m)):=rfl
  have hz:bD false ls.length n=n - 292:=rfl
  have Jj:aL false ls.length k=aF k:=rfl
  rw [hz,Jj] at hf
  rw [wQ,if_neg (by simp),hk] at hh
  have hex:∃x,some x∈ls:=by
   obtain ⟨ox,hx⟩:=eC (l:=ls) (i:=0) oZ
   rcases ox with _ | x
   ·exact absurd rfl (hall _ (mem_of_getElem? hx))
   ·exact ⟨x,mem_of_getElem? hx⟩
  have qd:=UJ T fr p qs m n ls _ _ hn kA.2 R C M L hC hM hL ho db at_ b k kn ⟨a,b',c,d⟩ hk oZ oZ AX Ee hex hh
  refine gj qd ?_
  rintro _ _ ⟨ad,O,rfl,hO,rfl⟩
  refine gz ?_
  exact fin ⟨ad,O,rfl,hO,rfl⟩ aa
theorem qX:Ct 71 [ptr t] [C,V] fun u Bs=>∃C',u = .int .i64 (if (R.run (de ls)).off then 5 else 0)/\bj p qs (R.run (de ls)) C'/\Bs=[C',V]:=by
 obtain ⟨m,M,jj,cT,DT,eb,cI,DI,kB,cL,DL,pO,cl,Dl,vD,DD,L,hT,hI,xW,hl,hM,hL,rfl⟩:=hV
 have Qb:=hI.rd
 obtain ⟨gI,oI,rfl⟩:=Qb.addr oZ
 have hn:=ok.hn
 have kA:=ok.hw
 refine st func71 fun w0 => ?_
 refine gs ?_
 refine gl [9,10] (fun ((j,_):Nat×Chunk)=>[(11,.int .i64 j)]) (fun (_,C)=>[C]) (fun (j,C)=>j<=1/\(j=0->bj p qs R C)/\(j=1->bj p qs (R.run (de ls)) C/\(R.run (de ls)).off=false)) (fun (j,_)=>1 - j) (0,C) ⟨by omega,fun _=>hC,fun h=>absurd h oZ⟩ ?_
 rintro ⟨j,C⟩ ⟨hj,Uo,pF⟩
 refine gi ?_ ?_ <;> intro br
 ·obtain rfl:j=0:=oZ
  have hC:=Uo rfl
  cases pr with
  | true =>
   have bX:[JA true m][0]? = some (.iface 187 (ptr m)):=rfl
   have h3w:=ok.hp rfl
   refine gj (P3 p qs m n ls _ hn ⟨h3w,kA.2⟩ R C M L hC hM hL ho hall) ?_
   rintro _ _ ⟨C',rfl,bF,rfl⟩
   change bj p qs (R.run (de ls)) C' at bF
   cases dS:(R.run (de ls)).off with
   | true =>
    have Hn:(R.run (upto (nz ls) ls.length)).off=true:=dS
    rw [Hn]
    refine gz ?_
    exact fin ⟨C',rfl,bF,rfl⟩ aa
   | false =>
    have Hn:(R.run (upto (nz ls) ls.length)).off=false:=dS
    rw [Hn]
    refine gn ?_
    exact ⟨(1,C'),⟨by omega,(fun h=>by cases h),(fun _=>⟨bF,rfl⟩)⟩,sOZ,ar,_,aa⟩
  | false =>
   have bX:[JA false m][0]? = some (.iface 191 (ptr m)):=rfl
   have hex:∃x,some x∈ls:=by
    obtain ⟨ox,hx⟩:=eC (l:=ls) (i:=0) oZ
    rcases ox with _ | x
    ·exact absurd rfl (hall _ (mem_of_getElem? hx))
    ·exact ⟨x,mem_of_getElem? hx⟩
   refine gj (P5 p qs m n ls _ _ hn kA.2 R C M L hC hM hL ho hex) ?_
   rintro _ _ ⟨C',rfl,bF,rfl⟩
   change bj p qs (R.run (de ls)) C' at bF
   cases dS:(R.run (de ls)).off with
   | true =>
    have Hn:(R.run (upto (nz ls) ls.length)).off=true:=dS
    rw [Hn]
    refine gz ?_
    exact fin ⟨C',rfl,bF,rfl⟩ aa
   | false =>
    have Hn:(R.run (upto (nz ls) ls.length)).off=false:=dS
    rw [Hn]
    refine gn ?_
    exact ⟨(1,C'),⟨by omega,(fun h=>by cases h),(fun _=>⟨bF,rfl⟩)⟩,sOZ,ar,_,aa⟩
 ·obtain rfl:j=1:=oZ
  obtain ⟨bF,dS⟩:=pF rfl
  refine gz ?_
  exact fin ⟨C,by rw [dS];rfl,bF,rfl⟩ aa
end
end Go.Proofs.YtpabnmeponmonaaGreatDoor
namespace Go.Sl
structure Sp where
 at_:Int
 many:Int
deriving DecidableEq
def Sp.lay (x:Sp):List Value:=[.int .i64 x.at_,.int .i64 x.many]
abbrev Sp.agg (x:Sp):Value:=.agg #[.int .i64 x.at_,.int .i64 x.many]
def Sp.fin (x:Sp):Int:=x.at_+x.many
def Sp.may (x:Sp):Bool:=decide (0<=x.at_/\1<=x.many/\x.at_<=1099511627776/\x.many<=1099511627776 - x.at_)
theorem Sp.ak (x:Sp):x.lay.length=2:=rfl
def Sp.common (a b:Sp):Int:=if min a.fin b.fin<max a.at_ b.at_ then 0 else min a.fin b.fin - max a.at_ b.at_
structure AY (l:List Sp):Prop where
 may:∀x∈l,x.may=true
 zj:l.Pairwise (fun a b=>a.fin<b.at_)
 len:l.length<=4096
theorem Sp.az {x:Sp}:x.may=true↔0<=x.at_/\1<=x.many/\x.at_<=1099511627776/\x.many<=1099511627776 - x.at_:=by simp [Sp.may]
theorem AY.at {l:List Sp}(h:AY l){i:Nat}(hi:i<l.length):0<=l[i].at_/\1<=l[i].many/\l[i].at_<=1099511627776/\l[i].many<=1099511627776 - l[i].at_:=Sp.az.1 (h.may _ (getElem_mem hi))
theorem AY.lt {l:List Sp}(h:AY l){i j:Nat}(F9:i<j)(hj:j<l.length):l[i].fin<l[j].at_:=pairwise_iff_getElem.1 h.zj i j oZ hj F9
theorem AY.AZ {l:List Sp}(h:AY l){i j:Nat}(F9:i<=j)(hj:j<l.length):l[i].fin<=l[j].fin:=by
 rcases Nat.eq_or_lt_of_le F9 with rfl | F9
 ·exact Int.le_refl _
 ·have h1:=h.lt F9 hj
  have h2:=h.at hj
  simp only [Sp.fin] at *;omega
def Cut (l:List Sp)(n:Int)(k:Nat):Prop:=k<=l.length/\(∀i (h:i<l.length),i<k->l[i].fin<=n)/\∀i (h:i<l.length),k<=i->n<l[i].fin
structure Gd (l:List Sp):Prop where
 may:∀x∈l,x.may=true
 zj:l.Pairwise (fun a b=>a.fin<b.at_)
theorem AY.gd {l:List Sp}(h:AY l):Gd l:=⟨h.may,h.zj⟩
theorem Gd.Nx {l:List Sp}(h:Gd l)(hl:l.length<=4096):AY l:=⟨h.may,h.zj,hl⟩
theorem A0:Gd []:=⟨by simp,by simp⟩
theorem cp {y:Sp}{r:List Sp}:Gd (y :: r)↔y.may=true/\(∀z∈r,y.fin<z.at_)/\Gd r:=by
 constructor
 ·intro h
  have h2:=pairwise_cons.1 h.zj
  exact ⟨h.may _ (mem_cons_self ..),h2.1,fun x hx=>h.may x (mem_cons_of_mem _ hx),h2.2⟩
 ·rintro ⟨h1,h2,h3⟩
  refine ⟨fun x hx => ?_,pairwise_cons.2 ⟨h2,h3.zj⟩⟩
  rcases List.mem_cons.1 hx with rfl | hx
  ·exact h1
  ·exact h3.may x hx
def ly:List Sp->Sp->Int
 | [],_=>0
 | y :: r,x=>y.common x+ly r x
theorem fW (y x:Sp):y.common x=max 0 (min y.fin x.fin - max y.at_ x.at_):=by unfold Sp.common;split <;> omega
theorem pq (y x:Sp):0<=y.common x:=by rw [fW];omega
theorem tC (l:List Sp)(x:Sp):0<=ly l x:=by
 induction l with
 | nil=>exact Int.le_refl _
 | cons y r ih=>have:=pq y x;simp only [ly];omega
theorem aK {α:Type}(l:List α){i:Nat}(hi:i<l.length):l.take (i+1)=l.take i++[l[i]]:=by rw [take_append_getElem hi]
theorem UR {l:List Sp}(h:Gd l)(x:Sp):∀(b:Int),(∀y∈l,b<=y.at_)->ly l x<=max 0 (x.fin - b):=by
 induction l with
 | nil=>intro b _;simp only [ly];omega
 | cons y r ih =>
  intro b hb
  obtain ⟨h1,h2,h3⟩:=cp.1 h
  have h4:=ih h3 y.fin (fun z hz=>Int.le_of_lt (h2 z hz))
  have h5:=hb y (mem_cons_self ..)
  have h6:=Sp.az.1 h1
  simp only [ly,fW]
  simp only [Sp.fin] at *
  omega
theorem A7 {l:List Sp}(h:Gd l){x:Sp}(hx:x.may=true):ly l x=x.many↔∃y∈l,y.at_<=x.at_/\x.fin<=y.fin:=by
 have Gj:=Sp.az.1 hx
 induction l with
 | nil =>
  simp only [ly]
  constructor
  ·intro h;omega
  ·rintro ⟨y,hy,_⟩;cases hy
 | cons y r ih =>
  obtain ⟨h1,h2,h3⟩:=cp.1 h
  have h6:=Sp.az.1 h1
  have hb:=UR h3 x (y.fin+1) (fun z hz=>by have:=h2 z hz;omega)
  have hn:=tC r x
  have ih:ly r x=x.many↔∃y∈r,y.at_<=x.at_/\x.fin<=y.fin:=ih h3
  simp only [List.mem_cons,exists_eq_or_imp,ly]
  by_cases c1:y.fin<=x.at_
  ·have e1:y.common x=0:=by rw [fW];simp only [Sp.fin] at *;omega
   rw [e1,Int.zero_add];rw [ih]
   constructor
   ·exact .inr
   ·rintro (⟨_,h⟩ | h)
    ·simp only [Sp.fin] at *;omega
    ·exact h
  ·have e2:∀z∈r,¬(z.at_<=x.at_/\x.fin<=z.fin):=fun z hz=>by have:=h2 z hz;omega
   by_cases c2:y.at_<=x.at_/\x.fin<=y.fin
   ·have e1:y.common x=x.many:=by rw [fW];simp only [Sp.fin] at *;omega
    have e3:ly r x=0:=by clear ih e1;simp only [Sp.fin] at *;omega
    rw [e1,e3,Int.add_zero]
    exact ⟨fun _=>.inl c2,fun _=>rfl⟩
   ·have e1:y.common x+ly r x<x.many:=by
     clear ih;rw [fW];simp only [Sp.fin] at *;omega
    constructor
    ·intro h;omega
    ·rintro (h | ⟨z,hz,h⟩)
     ·exact absurd h c2
     ·exact absurd h (e2 z hz)
theorem n7 {l:List Sp}(h:Gd l){x:Sp}(hx:x.may=true):0<ly l x↔∃y∈l,y.at_<x.fin/\x.at_<y.fin:=by
 have Gj:=Sp.az.1 hx
 induction l with
 | nil=>simp [ly]
 | cons y r ih =>
  obtain ⟨h1,h2,h3⟩:=cp.1 h
  have h6:=Sp.az.1 h1
  have hn:=tC r x
  have hc:=pq y x
  have ih:0<ly r x↔∃y∈r,y.at_<x.fin/\x.at_<y.fin:=ih h3
  simp only [List.mem_cons,exists_eq_or_imp,ly]
  have e1:0<y.common x↔y.at_<x.fin/\x.at_<y.fin:=by
   rw [fW];simp only [Sp.fin] at *;omega
  rw [<-ih,<-e1]
  clear ih e1
  omega
def er (l:List Sp)(x:Sp):Bool:=x.may&&decide (0<ly l x)
def mK (l:List Sp)(x:Sp):Bool:=x.may&&decide (ly l x=x.many)
theorem uA {l:List Sp}(h:Gd l){x:Sp}(hx:x.may=true){k:Nat}(hk:Cut l x.at_ k):mK l x=true↔∃h:k<l.length,l[k].at_<=x.at_/\x.fin<=l[k].fin:=by
 simp only [mK,hx,Bool.true_and,decide_eq_true_eq,A7 h hx]
 have Gj:=Sp.az.1 hx
 constructor
 ·rintro ⟨y,hy,h1,h2⟩
  obtain ⟨j,hj,rfl⟩:=getElem_of_mem hy
  rcases Nat.lt_trichotomy j k with c | rfl | c
  ·have:=hk.2.1 j hj c
   simp only [Sp.fin] at *;omega
  ·exact ⟨hj,h1,h2⟩
  ·have h3:=pairwise_iff_getElem.1 h.zj k j oZ hj c
   have h4:=hk.2.2 k oZ (Nat.le_refl _)
   simp only [Sp.fin] at *;omega
 ·rintro ⟨hk,h1,h2⟩
  exact ⟨_,getElem_mem hk,h1,h2⟩
theorem sP {l:List Sp}(h:Gd l){x:Sp}(hx:x.may=true){k:Nat}(hk:Cut l x.at_ k):er l x=true↔∃h:k<l.length,l[k].at_<x.fin:=by
 simp only [er,hx,Bool.true_and,decide_eq_true_eq,n7 h hx]
 have Gj:=Sp.az.1 hx
 constructor
 ·rintro ⟨y,hy,h1,h2⟩
  obtain ⟨j,hj,rfl⟩:=getElem_of_mem hy
  rcases Nat.lt_trichotomy j k with c | rfl | c
  ·have:=hk.2.1 j hj c
   simp only [Sp.fin] at *;omega
  ·exact ⟨hj,h1⟩
  ·have h3:=pairwise_iff_getElem.1 h.zj k j oZ hj c
   have h4:=Sp.az.1 (h.may _ (getElem_mem (show k<l.length by omega)))
   refine ⟨by omega, ?_⟩
   simp only [Sp.fin] at *;omega
 ·rintro ⟨hj,h1⟩
  exact ⟨_,getElem_mem hj,h1,hk.2.2 k hj (Nat.le_refl _)⟩
def bS:List Sp->Sp->Bool->List Sp
 | [],x,d=>if d then [] else [x]
 | y :: r,x,d =>
  if y.fin=x.at_ then bS r ⟨y.at_,y.many+x.many⟩ d
  else if x.fin=y.at_ then bS r ⟨x.at_,x.many+y.many⟩ d
  else if x.at_<y.at_/\d=false then x :: y :: bS r x true
  else y :: bS r x d
theorem wS {l:List Sp}(h:Gd l){x:Sp}(hx:x.may=true)(hl:∀y∈l,x.fin<y.at_):bS l x true=l:=by
 have Gj:=Sp.az.1 hx
 induction l with
 | nil=>rfl
 | cons y r ih =>
  obtain ⟨h1,h2,h3⟩:=cp.1 h
  have h4:=hl y (mem_cons_self ..)
  have h6:=Sp.az.1 h1
  unfold bS
  rw [if_neg (by simp only [Sp.fin] at *;omega),if_neg oZ,if_neg (by simp),ih h3 (fun z hz=>hl z (mem_cons_of_mem _ hz))]
theorem EJ {l:List Sp}(h:Gd l){x:Sp}(hx:x.may=true)(hl:∀y∈l,x.fin<y.at_):bS l x false=x :: l:=by
 have Gj:=Sp.az.1 hx
 cases l with
 | nil=>rfl
 | cons y r =>
  obtain ⟨h1,h2,h3⟩:=cp.1 h
  have h4:=hl y (mem_cons_self ..)
  have h6:=Sp.az.1 h1
  unfold bS
  rw [if_neg (by simp only [Sp.fin] at *;omega),if_neg oZ,if_pos ⟨by simp only [Sp.fin] at *;omega,rfl⟩,wS h3 hx (fun z hz=>hl z (mem_cons_of_mem _ hz))]
theorem wT {p l:List Sp}{x:Sp}(hx:x.may=true)(hp:∀y∈p,y.may=true/\y.fin<x.at_):bS (p++l) x false=p++bS l x false:=by
 have Gj:=Sp.az.1 hx
 induction p with
 | nil=>rfl
 | cons y r ih =>
  obtain ⟨h1,h2⟩:=hp y (mem_cons_self ..)
  have h6:=Sp.az.1 h1
  rw [cons_append,cons_append,bS]
  rw [if_neg oZ,if_neg (by simp only [Sp.fin] at *;omega),if_neg (by simp only [Sp.fin] at *;omega),ih (fun z hz=>hp z (mem_cons_of_mem _ hz))]
def Sp.has (x:Sp)(n:Int):Prop:=x.at_<=n/\n<x.fin
def mL (l:List Sp)(n:Int):Prop:=∃y∈l,y.has n
theorem mem_cons {y:Sp}{r:List Sp}{n:Int}:mL (y :: r) n↔y.has n\/mL r n:=by simp [mL]
def cM:List Sp->Int
 | []=>0
 | y :: r=>y.many+cM r
theorem Qe {l:List Sp}(h:Gd l):∀(b:Int),(∀y∈l,b<=y.at_)->0<=cM l/\cM l<=max 0 (1099511627776 - b):=by
 induction l with
 | nil=>intro b _;simp only [cM];omega
 | cons y r ih =>
  intro b hb
  obtain ⟨h1,h2,h3⟩:=cp.1 h
  have h4:=ih h3 y.fin (fun z hz=>Int.le_of_lt (h2 z hz))
  have h5:=hb y (mem_cons_self ..)
  have h6:=Sp.az.1 h1
  simp only [cM]
  simp only [Sp.fin] at *
  omega
theorem Gd.take {l:List Sp}(h:Gd l)(i:Nat):Gd (l.take i):=⟨fun x hx=>h.may x (mem_of_mem_take hx),h.zj.sublist (take_sublist ..)⟩
theorem Gd.drop {l:List Sp}(h:Gd l)(i:Nat):Gd (l.drop i):=⟨fun x hx=>h.may x (mem_of_mem_drop hx),h.zj.sublist (drop_sublist ..)⟩
theorem uB {l:List Sp}(h:Gd l):0<=cM l/\cM l<=1099511627776:=by
 have:=Qe h 0 (fun y hy=>(Sp.az.1 (h.may y hy)).1)
 omega
structure acp (l:List Sp)(x:Sp)(m:List Sp):Prop where
 gd:Gd m
 mem:∀n,Sl.mL m n↔Sl.mL l n\/x.has n
 many:cM m=cM l+x.many
 low:∀b,b<x.at_->(∀y∈l,b<y.at_)->∀z∈m,b<z.at_
 len:m.length<=l.length+1
theorem wU {l:List Sp}(h:Gd l):∀ {x:Sp},x.may=true->(∀y∈l,y.fin<=x.at_\/x.fin<=y.at_)->acp l x (bS l x false):=by
 induction l with
 | nil=>intro x hx _;exact ⟨cp.2 ⟨hx,by simp,A0⟩,fun n=>by simp [bS,mem_cons,mL],by simp [bS,cM],fun b h1 _ z hz=>by simp [bS] at hz;subst hz;exact h1,by simp [bS]⟩
 | cons y r ih =>
  intro x hx hd
  obtain ⟨h1,h2,h3⟩:=cp.1 h
  have h6:=Sp.az.1 h1
  have Gj:=Sp.az.1 hx
  have hdy:=hd y (mem_cons_self ..)
  have LG:∀z∈r,z.fin<=x.at_\/x.fin<=z.at_:=fun z hz=>hd z (mem_cons_of_mem _ hz)
  have hzm:∀z∈r,z.at_<z.fin:=fun z hz=>by have:=Sp.az.1 (h3.may z hz);simp only [Sp.fin];omega
  unfold bS
  by_cases c1:y.fin=x.at_
  ·rw [if_pos c1]
   have I:=ih h3 (x:=⟨y.at_,y.many+x.many⟩) (by rw [Sp.az];simp only [Sp.fin] at *;omega) (fun z hz=>by
    have:=LG z hz;have:=hzm z hz;have:=h2 z hz;simp only [Sp.fin] at *;omega)
   refine ⟨I.gd,fun n => ?_, ?_,fun b hb hl=>I.low b (hl y (mem_cons_self ..)) (fun z hz=>hl z (mem_cons_of_mem _ hz)), ?_⟩
   ·rw [I.mem,mem_cons];clear I;simp only [Sp.has,Sp.fin] at *;by_cases q:mL r n <;> simp only [q,or_true,or_false,true_or] <;> grind
   ·rw [I.many];simp only [cM];omega
   ·have:=I.len;simp only [length_cons];omega
  rw [if_neg c1]
  by_cases c2:x.fin=y.at_
  ·rw [if_pos c2]
   have I:=ih h3 (x:=⟨x.at_,x.many+y.many⟩) (by rw [Sp.az];simp only [Sp.fin] at *;omega) (fun z hz=>by
    have:=LG z hz;have:=hzm z hz;have:=h2 z hz;simp only [Sp.fin] at *;omega)
   refine ⟨I.gd,fun n => ?_, ?_,fun b hb hl=>I.low b hb (fun z hz=>hl z (mem_cons_of_mem _ hz)), ?_⟩
   ·rw [I.mem,mem_cons];clear I;simp only [Sp.has,Sp.fin] at *;by_cases q:mL r n <;> simp only [q,or_true,or_false,true_or] <;> grind
   ·rw [I.many];simp only [cM];omega
   ·have:=I.len;simp only [length_cons];omega
  rw [if_neg c2]
  by_cases c3:x.at_<y.at_
  ·have hg:x.fin<y.at_:=by simp only [Sp.fin] at *;omega
   rw [if_pos ⟨c3,rfl⟩,wS h3 hx (fun z hz=>by have:=h2 z hz;simp only [Sp.fin] at *;omega)]
   refine ⟨cp.2 ⟨hx,fun z hz => ?_,h⟩,fun n=>by rw [mem_cons,Or.comm],by simp only [cM];omega,fun b hb hl z hz => ?_,by simp⟩
   ·rcases List.mem_cons.1 hz with rfl | hz
    ·exact hg
    ·have:=h2 z hz;simp only [Sp.fin] at *;omega
   ·rcases List.mem_cons.1 hz with rfl | hz
    ·exact hb
    ·exact hl z hz
  ·rw [if_neg (by simp [c3])]
   have I:=ih h3 hx LG
   have hyx:y.fin<x.at_:=by simp only [Sp.fin] at *;omega
   refine ⟨cp.2 ⟨h1,I.low y.fin hyx h2,I.gd⟩,fun n => ?_,by simp only [cM,I.many];omega,fun b hb hl z hz => ?_,by simp [I.len]⟩
   ·rw [mem_cons,I.mem,mem_cons,or_assoc]
   ·rcases List.mem_cons.1 hz with rfl | hz
    ·exact hl _ (mem_cons_self ..)
    ·exact I.low b hb (fun z hz=>hl z (mem_cons_of_mem _ hz)) z hz
theorem wV {l:List Sp}(h:Gd l){x:Sp}(hx:x.may=true)(hm:er l x=false):∀y∈l,y.fin<=x.at_\/x.fin<=y.at_:=by
 intro y hy
 have h1:¬(0<ly l x):=by simpa [er,hx] using hm
 rw [n7 h hx] at h1
 by_cases c:y.fin<=x.at_\/x.fin<=y.at_
 ·exact c
 ·exact absurd ⟨y,hy,by omega,by omega⟩ h1
def eL (x y:Sp):List Sp :=
 if x.common y=0 then [y] else (if y.at_<x.at_ then [⟨y.at_,x.at_ - y.at_⟩] else [])++(if x.fin<y.fin then [⟨x.fin,y.fin - x.fin⟩] else [])
def mb (l:List Sp)(x:Sp):List Sp:=l.flatMap (eL x)
theorem wW {x y:Sp}(hx:x.may=true)(hy:y.may=true)(h:y.fin<=x.at_\/x.fin<=y.at_):eL x y=[y]:=by
 have hx:=Sp.az.1 hx
 have hy:=Sp.az.1 hy
 unfold eL
 rw [if_pos (by rw [fW];simp only [Sp.fin] at *;omega)]
theorem wX {l:List Sp}(h:Gd l){x:Sp}(hx:x.may=true)(hl:∀y∈l,y.fin<=x.at_\/x.fin<=y.at_):mb l x=l:=by
 induction l with
 | nil=>rfl
 | cons y r ih =>
  obtain ⟨h1,h2,h3⟩:=cp.1 h
  have:=ih h3 (fun z hz=>hl z (mem_cons_of_mem _ hz))
  unfold mb at *
  rw [flatMap_cons,this,wW hx h1 (hl y (mem_cons_self ..))];rfl
theorem tD (l m:List Sp)(x:Sp):mb (l++m) x=mb l x++mb m x:=by simp [mb]
theorem UT {l:List Sp}(h:Gd l){x:Sp}(hx:x.may=true){k:Nat}(hk:Cut l x.at_ k)(hl:k<l.length)(h1:l[k].at_<=x.at_)(h2:x.fin<=l[k].fin):mb l x=l.take k++eL x l[k]++l.drop (k+1):=by
 have Gj:=Sp.az.1 hx
 have e:l=l.take k++([l[k]]++l.drop (k+1)):=by rw [singleton_append,<-drop_eq_getElem_cons hl,take_append_drop]
 conv=>lhs;rw [e]
 rw [tD,tD,wX (h.take k) hx,wX (h.drop _) hx]
 ·simp [mb]
 ·intro y hy
  obtain ⟨j,hj,rfl⟩:=getElem_of_mem hy
  rw [length_drop] at hj
  rw [getElem_drop]
  have:=pairwise_iff_getElem.1 h.zj k (k+1+j) hl oZ oZ
  omega
 ·intro y hy
  obtain ⟨j,hj,rfl⟩:=getElem_of_mem hy
  rw [length_take] at hj
  rw [getElem_take]
  exact .inl (hk.2.1 j oZ oZ)
structure ae7 (l:List Sp)(x:Sp)(m:List Sp):Prop where
 gd:Gd m
 mem:∀n,Sl.mL m n↔Sl.mL l n/\¬x.has n
 many:cM m=cM l - x.many
 low:∀b,(∀y∈l,b<y.at_)->∀z∈m,b<z.at_
 len:m.length<=l.length+1
theorem zk {l:List Sp}(h:Gd l){x:Sp}(hx:x.may=true)(hh:∃y∈l,y.at_<=x.at_/\x.fin<=y.fin):ae7 l x (mb l x):=by
 have Gj:=Sp.az.1 hx
 induction l with
 | nil=>obtain ⟨y,hy,_⟩:=hh;cases hy
 | cons y r ih =>
  obtain ⟨h1,h2,h3⟩:=cp.1 h
  have h6:=Sp.az.1 h1
  have hu:mb (y :: r) x=eL x y++mb r x:=by simp [mb]
  rw [hu]
  by_cases c:y.at_<=x.at_/\x.fin<=y.fin
  ·clear hh ih
   have ae8:∀z∈r,z.fin<=x.at_\/x.fin<=z.at_:=fun z hz=>by have:=h2 z hz;omega
   have XL:∀n,mL r n->y.fin<n:=fun n ⟨z,hz,hzn⟩=>by have:=h2 z hz;simp only [Sp.has] at hzn;omega
   rw [wX h3 hx ae8]
   unfold eL
   rw [if_neg (by rw [fW];simp only [Sp.fin] at *;omega)]
   by_cases d1:y.at_<x.at_ <;> by_cases d2:x.fin<y.fin <;> simp only [d1,d2,if_true,if_false,nil_append,append_nil,cons_append]
   ·refine ⟨cp.2 ⟨by rw [Sp.az];simp only [Sp.fin] at *;omega, ?_,cp.2 ⟨by rw [Sp.az];simp only [Sp.fin] at *;omega, ?_,h3⟩⟩,fun n => ?_, ?_, ?_,by simp⟩
    ·intro z hz
     rcases List.mem_cons.1 hz with rfl | hz
     ·simp only [Sp.fin] at *;omega
     ·have:=h2 z hz;simp only [Sp.fin] at *;omega
    ·intro z hz;have:=h2 z hz;simp only [Sp.fin] at *;omega
    ·have:=XL n
     rw [mem_cons,mem_cons,mem_cons];simp only [Sp.has,Sp.fin] at *;grind
    ·simp only [cM,Sp.fin];omega
    ·intro b hb z hz
     have yj:=hb y (mem_cons_self ..)
     rcases List.mem_cons.1 hz with rfl | hz
     ·exact yj
     rcases List.mem_cons.1 hz with rfl | hz
     ·simp only [Sp.fin] at *;omega
     ·exact hb z (mem_cons_of_mem _ hz)
   ·refine ⟨cp.2 ⟨by rw [Sp.az];simp only [Sp.fin] at *;omega, ?_,h3⟩,fun n => ?_, ?_, ?_,by simp⟩
    ·intro z hz;have:=h2 z hz;simp only [Sp.fin] at *;omega
    ·have:=XL n
     rw [mem_cons,mem_cons];simp only [Sp.has,Sp.fin] at *;grind
    ·simp only [cM,Sp.fin] at *;omega
    ·intro b hb z hz
     have yj:=hb y (mem_cons_self ..)
     rcases List.mem_cons.1 hz with rfl | hz
     ·exact yj
     ·exact hb z (mem_cons_of_mem _ hz)
   ·refine ⟨cp.2 ⟨by rw [Sp.az];simp only [Sp.fin] at *;omega, ?_,h3⟩,fun n => ?_, ?_, ?_,by simp⟩
    ·intro z hz;have:=h2 z hz;simp only [Sp.fin] at *;omega
    ·have:=XL n
     rw [mem_cons,mem_cons];simp only [Sp.has,Sp.fin] at *;grind
    ·simp only [cM,Sp.fin] at *;omega
    ·intro b hb z hz
     have yj:=hb y (mem_cons_self ..)
     rcases List.mem_cons.1 hz with rfl | hz
     ·simp only [Sp.fin] at *;omega
     ·exact hb z (mem_cons_of_mem _ hz)
   ·refine ⟨h3,fun n => ?_, ?_,fun b hb z hz=>hb z (mem_cons_of_mem _ hz),by simp;omega⟩
    ·have:=XL n
     rw [mem_cons];simp only [Sp.has,Sp.fin] at *;grind
    ·simp only [cM,Sp.fin] at *;omega
  ·have hr:∃z∈r,z.at_<=x.at_/\x.fin<=z.fin:=by
    obtain ⟨z,hz,hq⟩:=hh
    rcases List.mem_cons.1 hz with rfl | hz
    ·exact absurd hq c
    ·exact ⟨z,hz,hq⟩
   have I:=ih h3 hr
   have hyx:y.fin<x.at_:=by obtain ⟨z,hz,h,_⟩:=hr;have:=h2 z hz;omega
   rw [wW hx h1 (.inl oZ),singleton_append]
   refine ⟨cp.2 ⟨h1,I.low y.fin h2,I.gd⟩,fun n => ?_,by simp only [cM,I.many];omega,fun b hb z hz => ?_,by simp [I.len]⟩
   ·rw [mem_cons,I.mem,mem_cons];simp only [Sp.has,Sp.fin] at *;grind
   ·rcases List.mem_cons.1 hz with rfl | hz
    ·exact hb _ (mem_cons_self ..)
    ·exact I.low b (fun z hz=>hb z (mem_cons_of_mem _ hz)) z hz
abbrev Qf:Int:=90
abbrev XM:Int:=2
def wY (l:List Sp)(x:Sp):Int:=if x.may && !er l x then (if 4096<(bS l x false).length then XM else 0) else Qf
def Ho (l:List Sp)(x:Sp):List Sp:=if wY l x=0 then bS l x false else l
def yv (l:List Sp)(x:Sp):Int:=if mK l x then (if 4096<(mb l x).length then XM else 0) else Qf
def Hq (l:List Sp)(x:Sp):List Sp:=if yv l x=0 then mb l x else l
def jk:List Sp->Int->Int->Int×Bool
 | [],_,_=>(0,false)
 | y :: r,n,f=>if max y.at_ f<=y.fin/\n<=y.fin - max y.at_ f then (max y.at_ f,true) else jk r n f
def iq (l:List Sp)(n f:Int):Int×Bool:=if n<1\/f<0 then (0,false) else jk l n f
theorem A8 {l:List Sp}{x:Sp}(h:wY l x=0):x.may=true/\er l x=false/\(bS l x false).length<=4096:=by
 unfold wY at h
 split at h
 ·rename_i c
  simp only [Bool.and_eq_true,Bool.not_eq_true'] at c
  split at h
  ·cases h
  ·exact ⟨c.1,c.2,by omega⟩
 ·cases h
theorem uC {l:List Sp}{x:Sp}(h:wY l x=0):Ho l x=bS l x false:=by simp [Ho,h]
theorem Ba {l:List Sp}{x:Sp}(h:yv l x=0):mK l x=true/\(mb l x).length<=4096:=by
 unfold yv at h
 split at h
 ·rename_i c
  split at h
  ·cases h
  ·exact ⟨c,by omega⟩
 ·cases h
theorem uD {l:List Sp}{x:Sp}(h:mK l x=true):x.may=true:=by simp only [mK,Bool.and_eq_true] at h;exact h.1
theorem wZ {l:List Sp}(hl:Gd l){x:Sp}(h:mK l x=true):∃y∈l,y.at_<=x.at_/\x.fin<=y.fin:=by
 have hx:=uD h
 simp only [mK,hx,Bool.true_and,decide_eq_true_eq] at h
 exact (A7 hl hx).1 h
theorem Qg {l:List Sp}(hl:Gd l){x:Sp}(hx:x.may=true)(h:∃y∈l,y.at_<=x.at_/\x.fin<=y.fin):mK l x=true:=by
 simp only [mK,hx,Bool.true_and,decide_eq_true_eq]
 exact (A7 hl hx).2 h
theorem uE {l:List Sp}{x:Sp}(h:yv l x=0):Hq l x=mb l x:=by simp [Hq,h]
theorem sQ {l:List Sp}(h:Gd l){x:Sp}(c:wY l x=0):cM (Ho l x)=cM l+x.many:=by
 obtain ⟨h1,h2,h3⟩:=A8 c
 rw [uC c]
 exact (wU h h1 (wV h h1 h2)).many
theorem sR {l:List Sp}(h:Gd l){x:Sp}(c:yv l x=0):cM (Hq l x)=cM l - x.many:=by
 obtain ⟨h1,h3⟩:=Ba c
 rw [uE c]
 exact (zk h (uD h1) (wZ h h1)).many
theorem LH {l:List Sp}(h:Gd l){x:Sp}(hl:∀y∈l,y.fin<=x.at_\/x.fin<=y.at_):er l x=false:=by
 cases hx:x.may with
 | false=>simp [er,hx]
 | true =>
  cases hm:er l x with
  | false=>rfl
  | true =>
   simp only [er,hx,Bool.true_and,decide_eq_true_eq,n7 h hx] at hm
   obtain ⟨y,hy,h1,h2⟩:=hm
   have:=hl y hy
   omega
theorem Bb {l:List Sp}{x:Sp}(h:Gd l)(hx:x.may=true)(hd:∀n,mL l n->¬x.has n):∀y∈l,y.fin<=x.at_\/x.fin<=y.at_:=by
 intro y hy
 have h1:=Sp.az.1 hx
 have h2:=Sp.az.1 (h.may y hy)
 have h3:=hd (max x.at_ y.at_)
 by_cases c:y.has (max x.at_ y.at_)
 ·have:=h3 ⟨y,hy,c⟩
  simp only [Sp.has,Sp.fin] at *;omega
 ·simp only [Sp.has,Sp.fin] at *;omega
theorem Qh {l:List Sp}{x:Sp}(h:Gd l)(hx:x.may=true)(hd:∀y∈l,y.fin<=x.at_\/x.fin<=y.at_)(hl:(bS l x false).length<=4096):wY l x=0:=by
 unfold wY
 rw [if_pos (by simp [hx,LH h hd]),if_neg oZ]
theorem Hr {x:Sp}{n:Int}:mL [x] n↔x.has n:=by simp [mL]
theorem cover {l:List Sp}(h:Gd l){x:Sp}(hx:x.may=true)(hc:∀n,x.has n->mL l n):∃y∈l,y.at_<=x.at_/\x.fin<=y.fin:=by
 have m1:=Sp.az.1 hx
 obtain ⟨y,hy,hyn⟩:=hc x.at_ (by simp only [Sp.has,Sp.fin];omega)
 refine ⟨y,hy,hyn.1, ?_⟩
 by_cases c:x.fin<=y.fin
 ·exact c
 ·exfalso
  obtain ⟨z,hz,hzn⟩:=hc y.fin (by simp only [Sp.has] at *;omega)
  obtain ⟨i,hi,rfl⟩:=getElem_of_mem hy
  obtain ⟨j,hj,rfl⟩:=getElem_of_mem hz
  have mi:=Sp.az.1 (h.may _ hy)
  rcases Nat.lt_trichotomy i j with q | rfl | q
  ·have:=pairwise_iff_getElem.1 h.zj i j hi hj q
   simp only [Sp.has,Sp.fin] at *;omega
  ·simp only [Sp.has] at hzn;omega
  ·have:=pairwise_iff_getElem.1 h.zj j i hj hi q
   simp only [Sp.has,Sp.fin] at *;omega
theorem w5 {l:List Sp}{n f at':Int}(h:jk l n f=(at',true)):∃y∈l,at'=max y.at_ f/\at'<=y.fin/\n<=y.fin - at':=by
 induction l with
 | nil=>simp [jk] at h
 | cons y r ih =>
  unfold jk at h
  split at h
  ·rename_i c
   cases h
   exact ⟨y,mem_cons_self ..,rfl,c⟩
  ·obtain ⟨z,hz,q⟩:=ih h
   exact ⟨z,mem_cons_of_mem _ hz,q⟩
theorem find_spec {l:List Sp}(h:Gd l){n f at':Int}(hf:iq l n f=(at',true)):f<=at'/\mK l ⟨at',n⟩=true/\(at'=f\/mK l ⟨at' - 1,n⟩=false):=by
 unfold iq at hf
 split at hf
 ·cases hf
 rename_i c
 obtain ⟨y,hy,h1,h2,h3⟩:=w5 hf
 have my:=Sp.az.1 (h.may y hy)
 refine ⟨by omega,Qg h (by rw [Sp.az];simp only [Sp.fin] at *;omega) ⟨y,hy,sOZ,by simp only [Sp.fin] at *;omega⟩, ?_⟩
 by_cases e:at'=f
 ·exact .inl e
 ·right
  cases hh:mK l ⟨at' - 1,n⟩ with
  | false=>rfl
  | true =>
   exfalso
   obtain ⟨z,hz,h4,h5⟩:=wZ h hh
   obtain ⟨i,hi,rfl⟩:=getElem_of_mem hy
   obtain ⟨j,hj,rfl⟩:=getElem_of_mem hz
   have mz:=Sp.az.1 (h.may _ hz)
   rcases Nat.lt_trichotomy i j with q | rfl | q
   ·have:=pairwise_iff_getElem.1 h.zj i j hi hj q
    simp only [Sp.fin] at *;omega
   ·simp only [Sp.fin] at *;omega
   ·have:=pairwise_iff_getElem.1 h.zj j i hj hi q
    simp only [Sp.fin] at *;omega
theorem EK {l:List Sp}(h:Gd l){n f:Int}{y:Sp}(hy:y∈l)(h1:max y.at_ f<=y.fin)(h2:n<=y.fin - max y.at_ f):∃at',jk l n f=(at',true)/\at'<=max y.at_ f:=by
 induction l with
 | nil=>cases hy
 | cons z r ih =>
  obtain ⟨g1,g2,g3⟩:=cp.1 h
  have mz:=Sp.az.1 g1
  unfold jk
  by_cases c:max z.at_ f<=z.fin/\n<=z.fin - max z.at_ f
  ·rw [if_pos c]
   refine ⟨_,rfl, ?_⟩
   rcases List.mem_cons.1 hy with rfl | hy
   ·exact Int.le_refl _
   ·have:=g2 y hy;simp only [Sp.fin] at *;omega
  ·rw [if_neg c]
   rcases List.mem_cons.1 hy with rfl | hy
   ·exact absurd ⟨h1,h2⟩ c
   ·exact ih g3 hy
theorem Hs {l:List Sp}(h:Gd l){n f:Int}(hn:1<=n)(hf:0<=f){y:Sp}(hy:y∈l)(h1:max y.at_ f<=y.fin)(h2:n<=y.fin - max y.at_ f):∃at',iq l n f=(at',true)/\at'<=max y.at_ f:=by
 unfold iq
 rw [if_neg oZ]
 exact EK h hy h1 h2
theorem zl {l:List Sp}{n f:Int}(hn:1<=n){k:Nat}(hk:Cut l f k):jk l n f=jk (l.drop k) n f:=by
 have:∀(m:Nat),m<=k->jk l n f=jk (l.drop m) n f:=by
  intro m
  induction m with
  | zero=>intro _;rfl
  | succ m ih =>
   intro hm
   have PW:m<l.length:=by have:=hk.1;omega
   rw [ih oZ,drop_eq_getElem_cons PW,jk,if_neg]
   have:=hk.2.1 m PW oZ
   omega
 exact this k (Nat.le_refl _)
theorem UU {l:List Sp}(h:Gd l){k:Nat}{b:Int}(hl:∀h:k<l.length,b<=l[k].at_):∀y∈l.drop k,b<=y.at_:=by
 intro y hy
 obtain ⟨j,hj,rfl⟩:=getElem_of_mem hy
 rw [length_drop] at hj
 rw [getElem_drop]
 have h0:=hl oZ
 rcases Nat.eq_zero_or_pos j with rfl | hj0
 ·simpa using h0
 ·have:=pairwise_iff_getElem.1 h.zj k (k+j) oZ oZ oZ
  have h2:=Sp.az.1 (h.may _ (getElem_mem (show k<l.length by omega)))
  simp only [Sp.fin] at *;omega
theorem zm {l:List Sp}(h:Gd l){x:Sp}(hx:x.may=true){k:Nat}(hk:Cut l x.at_ k)(hn:¬ ∃h:0<k,(l[k - 1]'(by have:=hk.1;omega)).fin=x.at_):bS l x false=l.take k++bS (l.drop k) x false:=by
 conv=>lhs;rw [<-take_append_drop k l]
 refine wT hx fun y hy=>⟨h.may y (mem_of_mem_take hy), ?_⟩
 obtain ⟨j,hj,rfl⟩:=getElem_of_mem hy
 rw [length_take] at hj
 rw [getElem_take]
 have kI:=hk.1
 have h1:=hk.2.1 j oZ oZ
 have h2:¬(l[k - 1]'oZ).fin=x.at_:=fun q=>hn ⟨by omega,q⟩
 by_cases c:j=k - 1
 ·subst c;omega
 ·have:=pairwise_iff_getElem.1 h.zj j (k - 1) oZ oZ oZ
  have h3:=hk.2.1 (k - 1) oZ oZ
  have h4:=Sp.az.1 (h.may _ (getElem_mem (show k - 1<l.length by omega)))
  have h5:(l[k - 1]'oZ).at_<(l[k - 1]'oZ).fin:=by simp only [Sp.fin];omega
  omega
theorem w6 {l:List Sp}(h:Gd l){x:Sp}(hx:x.may=true){k:Nat}(hk:k+1<=l.length)(hn:(l[k]'oZ).fin=x.at_) :
  bS l x false=l.take k++bS (l.drop (k+1)) ⟨(l[k]'oZ).at_,(l[k]'oZ).many+x.many⟩ false:=by
 conv=>lhs;rw [<-take_append_drop k l,drop_eq_getElem_cons (show k<l.length by omega)]
 rw [wT hx fun y hy=>⟨h.may y (mem_of_mem_take hy),by
  obtain ⟨j,hj,rfl⟩:=getElem_of_mem hy
  rw [length_take] at hj
  rw [getElem_take]
  have:=pairwise_iff_getElem.1 h.zj j k oZ oZ oZ
  have h4:=Sp.az.1 (h.may _ (getElem_mem (show k<l.length by omega)))
  simp only [Sp.fin] at *;omega⟩,bS,if_pos hn]
theorem pP {l:List Sp}(h:Gd l){x:Sp}(hx:x.may=true){k:Nat}(hl:∀h:k<l.length,x.fin<l[k].at_):bS (l.drop k) x false=x :: l.drop k :=
 EJ (h.drop k) hx fun y hy=>by have:=UU h (k:=k) (b:=x.fin+1) (fun h=>by have:=hl h;omega) y hy;omega
theorem tE {l:List Sp}(h:Gd l){x:Sp}(hx:x.may=true){k:Nat}(hk:k<l.length)(hl:l[k].at_=x.fin):bS (l.drop k) x false=⟨x.at_,x.many+l[k].many⟩ :: l.drop (k+1):=by
 have Gj:=Sp.az.1 hx
 have hm:=Sp.az.1 (h.may _ (getElem_mem hk))
 rw [drop_eq_getElem_cons hk,bS,if_neg (by simp only [Sp.fin] at *;omega),if_pos hl.symm]
 refine pP h (by rw [Sp.az];simp only [Sp.fin] at *;omega) fun h2 => ?_
 have:=pairwise_iff_getElem.1 h.zj k (k+1) hk h2 oZ
 simp only [Sp.fin] at *;omega
section
variable {l:List Sp}{x:Sp}{k:Nat}
theorem Ht (h:Gd l)(hx:x.may=true)(hk:k<=l.length)(h0:0<k)(h1:(l[k - 1]'oZ).fin=x.at_):(⟨(l[k - 1]'oZ).at_,(l[k - 1]'oZ).many+x.many⟩:Sp).may=true:=by
 have Gj:=Sp.az.1 hx
 have hm:=Sp.az.1 (h.may _ (getElem_mem (show k - 1<l.length by omega)))
 rw [Sp.az];simp only [Sp.fin] at *;omega
theorem wLR (h:Gd l)(hx:x.may=true)(hk:k<l.length)(h0:0<k)(h1:(l[k - 1]'oZ).fin=x.at_)(h2:l[k].at_=(⟨(l[k - 1]'oZ).at_,(l[k - 1]'oZ).many+x.many⟩:Sp).fin) :
  l.take (k - 1)++[⟨(l[k - 1]'oZ).at_,(l[k - 1]'oZ).many+x.many+l[k].many⟩]++l.drop (k+1)=bS l x false:=by
 rw [w6 h hx (k:=k - 1) oZ h1]
 have e:k - 1+1=k:=oZ
 simp only [e]
 rw [tE h (Ht h hx oZ h0 h1) hk h2]
 simp
theorem wL (h:Gd l)(hx:x.may=true)(hk:k<=l.length)(h0:0<k)(h1:(l[k - 1]'oZ).fin=x.at_)(hn:∀h:k<l.length,x.fin<=l[k].at_)(h2:¬ ∃h:k<l.length,l[k].at_=(⟨(l[k - 1]'oZ).at_,(l[k - 1]'oZ).many+x.many⟩:Sp).fin) :
  l.take (k - 1)++[⟨(l[k - 1]'oZ).at_,(l[k - 1]'oZ).many+x.many⟩]++l.drop k=bS l x false:=by
 rw [w6 h hx (k:=k - 1) oZ h1]
 have e:k - 1+1=k:=oZ
 simp only [e]
 rw [pP h (Ht h hx oZ h0 h1) fun h3 => ?_]
 ·simp
 ·have h4:=hn h3
  have h5:¬l[k].at_=_:=fun q=>h2 ⟨h3,q⟩
  simp only [Sp.fin] at *;omega
theorem wR (h:Gd l)(hx:x.may=true)(hk:Cut l x.at_ k)(h0:¬ ∃h:0<k,(l[k - 1]'(by have:=hk.1;omega)).fin=x.at_)(h1:k<l.length)(h2:l[k].at_=x.fin) :
  l.take k++[⟨x.at_,x.many+l[k].many⟩]++l.drop (k+1)=bS l x false:=by
 rw [zm h hx hk h0,tE h hx h1 h2];simp
theorem wN (h:Gd l)(hx:x.may=true)(hk:Cut l x.at_ k)(h0:¬ ∃h:0<k,(l[k - 1]'(by have:=hk.1;omega)).fin=x.at_)(hn:∀h:k<l.length,x.fin<=l[k].at_)(h2:¬ ∃h:k<l.length,l[k].at_=x.fin) :
  l.take k++[x]++l.drop k=bS l x false:=by
 rw [zm h hx hk h0,pP h hx fun q=>by
  have h3:=hn q
  have h4:¬l[k].at_=x.fin:=fun r=>h2 ⟨q,r⟩
  omega];simp
end
theorem Sp.bK (x:Sp):∀u∈x.lay,u.oneCell'=true:=fun u hu=>by
 simp only [Sp.lay,List.mem_cons,not_mem_nil,or_false] at hu
 rcases hu with rfl | rfl <;> rfl
end Go.Sl
namespace Go.Proofs.YtpabnmeponmonaaGreatDoor
abbrev rsO (v:Value)(mn:Int):Obj:=ax [v,.int .i64 mn] 269
def Ny (p:Nat)(l:List Sp)(mn:Int)(A:Chunk):Prop:=∃ad c D,aC D 164 2 (.slice ad l.length c) l.length (l.flatMap Sp.lay)/\A=[(p,rsO (.slice ad l.length c) mn)]++D
theorem Qi:Ct 103 [] [] fun u Bs=>∃p A,u=ptr p/\Ny p [] 0 A/\Bs=[A]:=by
 refine st func103 fun w0 => ?_
 refine ga ?_;intro p
 refine gz ?_
 exact fin ⟨p,[(p,rsO (.slice none 0 0) 0)],rfl,⟨none,0,[],aC.nil _ _,rfl⟩,rfl⟩ aa
theorem jc (x:Sp)(h : -4000000000000000000<=x.at_/\x.at_<=4000000000000000000 /\ -4000000000000000000<=x.many/\x.many<=4000000000000000000):Ct 164 [x.agg] [] fun u Bs=>u = .int .i64 x.fin/\Bs=[]:=by
 have hw:IntKind.i64.wrap (x.at_+x.many)=x.fin:=by rw [IntWalk.i64_in _ oZ];rfl
 refine st func164 fun w0 => ?_
 refine ga ?_;intro b
 refine gz ?_
 exact fin ⟨rfl,rfl⟩ aa
theorem Hu (x:Sp)(h : -4000000000000000000<=x.at_/\x.at_<=4000000000000000000):Ct 231 [x.agg] [] fun u Bs=>u = .bool x.may/\Bs=[]:=by
 have hw:IntKind.i64.wrap (1099511627776 - x.at_)=1099511627776 - x.at_:=by rw [IntWalk.i64_in _ oZ]
 refine st func231 fun w0 => ?_
 refine ga ?_;intro b
 refine gg ?_ ?_ <;> intro h1
 ·refine gg ?_ ?_ <;> intro h2
  ·refine gg ?_ ?_ <;> intro h3
   ·refine gz ?_
    exact fin ⟨congrArg _ (by unfold Sp.may;exact decide_eq_decide.2 oZ),rfl⟩ aa
   ·refine gz ?_
    exact fin ⟨congrArg _ (by unfold Sp.may;exact (decide_eq_false oZ).symm),rfl⟩ aa
  ·refine gz ?_
   exact fin ⟨congrArg _ (by unfold Sp.may;exact (decide_eq_false oZ).symm),rfl⟩ aa
 ·refine gz ?_
  exact fin ⟨congrArg _ (by unfold Sp.may;exact (decide_eq_false oZ).symm),rfl⟩ aa
theorem LI (p:Nat)(l:List Sp)(mn n:Int)(ad:Option Addr)(c:Nat)(D:Chunk)(hD:aC D 164 2 (.slice ad l.length c) l.length (l.flatMap Sp.lay))(hG:AY l):Ct 163 [ptr p,.int .i64 n] [[(p,rsO (.slice ad l.length c) mn)],D] fun u Bs=>∃k:Nat,u = .int .i64 k/\Cut l n k/\Bs=[[(p,rsO (.slice ad l.length c) mn)],D]:=by
 have jW:=hD.rd
 have hlen:=hG.len
 refine st func163 fun w0 => ?_
 refine gl [0,1] (fun ((lo,hi):Nat×Nat)=>[(5,.int .i64 lo),(6,.int .i64 hi)]) (fun _=>[]) (fun (lo,hi)=>lo<=hi/\hi<=l.length/\(∀(i:Nat) (h:i<l.length),i<lo->(l[i]'h).fin<=n)/\(∀(i:Nat) (h:i<l.length),hi<=i->n<(l[i]'h).fin)) (fun (lo,hi)=>hi - lo) (0,l.length) ⟨by omega,by omega,(fun i _ h=>by omega),(fun i h h2=>by omega)⟩ ?_
 rintro ⟨lo,hi⟩ ⟨hlh,hhl,h1,h2⟩
 refine gi ?_ ?_ <;> intro br
 ·obtain ⟨g,off,rfl⟩:=jW.addr oZ
  have Hv:(lo+hi) / 2<l.length:=oZ
  have hs:=av Sp.ak l ((lo+hi) / 2) _ (getElem?_eq_getElem Hv)
  have ic:=hG.at Hv
  have Hw:IntKind.i64.wrap ((lo:Int)+hi)=((lo+hi:Nat):Int):=by rw [IntWalk.i64_in _ oZ];omega
  refine gc (jc l[(lo+hi) / 2] oZ) ?_
  rintro _ _ ⟨rfl,rfl⟩
  refine gi ?_ ?_ <;> intro hb
  ·refine gn ?_
   exact ⟨(lo,(lo+hi) / 2),⟨by omega,by omega,h1,(fun i h Ta=>Int.lt_of_lt_of_le (by simpa using hb) (hG.AZ Ta h))⟩,sOZ,ar,_,aa⟩
  ·refine gn ?_
   exact ⟨((lo+hi) / 2+1,hi),⟨by omega,by omega,(fun i h Ta=>Int.le_trans (hG.AZ (show i<=(lo+hi) / 2 by omega) Hv) (by simpa using hb)),h2⟩,sOZ,ar,_,aa⟩
 ·obtain rfl:lo=hi:=oZ
  refine gz ?_
  exact fin ⟨lo,rfl,⟨hhl,h1,h2⟩,rfl⟩ aa
theorem n8 (p:Nat)(l:List Sp)(mn n:Int)(A:Chunk)(hA:Ny p l mn A)(hG:AY l):Ct 163 [ptr p,.int .i64 n] [A] fun u Bs=>∃k:Nat,u = .int .i64 k/\Cut l n k/\Bs=[A]:=by
 obtain ⟨ad,c,D,hD,rfl⟩:=hA
 have jW:=hD.rd
 have hlen:=hG.len
 refine st func163 fun w0 => ?_
 refine gs ?_
 refine gl [0,1] (fun ((lo,hi):Nat×Nat)=>[(5,.int .i64 lo),(6,.int .i64 hi)]) (fun _=>[]) (fun (lo,hi)=>lo<=hi/\hi<=l.length/\(∀(i:Nat) (h:i<l.length),i<lo->(l[i]'h).fin<=n)/\(∀(i:Nat) (h:i<l.length),hi<=i->n<(l[i]'h).fin)) (fun (lo,hi)=>hi - lo) (0,l.length) ⟨by omega,by omega,(fun i _ h=>by omega),(fun i h h2=>by omega)⟩ ?_
 rintro ⟨lo,hi⟩ ⟨hlh,hhl,h1,h2⟩
 refine gi ?_ ?_ <;> intro br
 ·obtain ⟨g,off,rfl⟩:=jW.addr oZ
  have Hv:(lo+hi) / 2<l.length:=oZ
  have hs:=av Sp.ak l ((lo+hi) / 2) _ (getElem?_eq_getElem Hv)
  have ic:=hG.at Hv
  have Hw:IntKind.i64.wrap ((lo:Int)+hi)=((lo+hi:Nat):Int):=by rw [IntWalk.i64_in _ oZ];omega
  refine gc (jc l[(lo+hi) / 2] oZ) ?_
  rintro _ _ ⟨rfl,rfl⟩
  refine gi ?_ ?_ <;> intro hb
  ·refine gn ?_
   exact ⟨(lo,(lo+hi) / 2),⟨by omega,by omega,h1,(fun i h Ta=>Int.lt_of_lt_of_le (by simpa using hb) (hG.AZ Ta h))⟩,sOZ,ar,_,aa⟩
  ·refine gn ?_
   exact ⟨((lo+hi) / 2+1,hi),⟨by omega,by omega,(fun i h Ta=>Int.le_trans (hG.AZ (show i<=(lo+hi) / 2 by omega) Hv) (by simpa using hb)),h2⟩,sOZ,ar,_,aa⟩
 ·obtain rfl:lo=hi:=oZ
  refine gz ?_
  exact fin ⟨lo,rfl,⟨hhl,h1,h2⟩,rfl⟩ aa
section
variable (p:Nat)(l:List Sp)(mn:Int)(A:Chunk)(hA:Ny p l mn A)(hG:AY l)(x:Sp)(hx : -4000000000000000000<=x.at_/\x.at_<=4000000000000000000)
include hA hG hx
theorem w7:Ct 232 [ptr p,x.agg] [A] fun u Bs=>u = .bool (er l x)/\Bs=[A]:=by
 have hbh:=n8 p l mn x.at_ A hA hG
 refine st func232 fun w0 => ?_
 refine ga ?_;intro b
 refine gc (Hu x hx) ?_
 rintro _ _ ⟨rfl,rfl⟩
 cases hm:x.may with
 | false =>
  refine gz ?_
  exact fin ⟨by simp [er,hm],rfl⟩ aa
 | true =>
  have G1:=Sp.az.1 hm
  refine gc hbh ?_
  rintro _ _ ⟨k,rfl,hk,rfl⟩
  obtain ⟨ad,c,D,hD,rfl⟩:=hA
  have jW:=hD.rd
  have hlen:=hG.len
  refine gs ?_
  refine gd [0,4,8,12,16,20,24,28,32,36,40,44,48,52,56,60,64,69,72,76,80] ?_
  refine gg ?_ ?_ <;> intro kI
  ·have kI:k<l.length:=oZ
   obtain ⟨g,off,rfl⟩:=jW.addr oZ
   have hs:=av Sp.ak l k _ (getElem?_eq_getElem kI)
   have vg:=hs 0 _ rfl
   refine gc (jc x oZ) ?_
   rintro _ _ ⟨rfl,rfl⟩
   refine gz ?_
   exact fin ⟨congrArg _ (by rw [Bool.eq_iff_iff,sP hG.gd hm hk];simp [kI]),rfl⟩ aa
  ·refine gz ?_
   exact fin ⟨congrArg _ (by rw [Bool.eq_iff_iff,sP hG.gd hm hk];simp;exact fun h=>absurd h oZ),rfl⟩ aa
theorem Qj:Ct 162 [ptr p,x.agg] [A] fun u Bs=>u = .bool (mK l x)/\Bs=[A]:=by
 have hbh:=n8 p l mn x.at_ A hA hG
 refine st func162 fun w0 => ?_
 refine ga ?_;intro b
 refine gc (Hu x hx) ?_
 rintro _ _ ⟨rfl,rfl⟩
 cases hm:x.may with
 | false =>
  refine gz ?_
  exact fin ⟨by simp [mK,hm],rfl⟩ aa
 | true =>
  have G1:=Sp.az.1 hm
  refine gc hbh ?_
  rintro _ _ ⟨k,rfl,hk,rfl⟩
  obtain ⟨ad,c,D,hD,rfl⟩:=hA
  have jW:=hD.rd
  have hlen:=hG.len
  refine gs ?_
  refine gd [0,4,8,12,16,20,24,28,32,36,40,44,48,52,56,60,64,68,72,76,80,84,88,92,96,100,104,108,116,113,123,126,130,134] ?_
  refine gg ?_ ?_ <;> intro kI
  ·have kI:k<l.length:=oZ
   obtain ⟨g,off,rfl⟩:=jW.addr oZ
   have hs:=av Sp.ak l k _ (getElem?_eq_getElem kI)
   have vg:=hs 0 _ rfl
   have ic:=hG.at kI
   refine gg ?_ ?_ <;> intro hle
   ·refine gc (jc l[k] oZ) ?_
    rintro _ _ ⟨rfl,rfl⟩
    refine gc (jc x oZ) ?_
    rintro _ _ ⟨rfl,rfl⟩
    refine gz ?_
    exact fin ⟨congrArg _ (by rw [Bool.eq_iff_iff,uA hG.gd hm hk];simp [kI];omega),rfl⟩ aa
   ·refine gz ?_
    exact fin ⟨congrArg _ (by rw [Bool.eq_iff_iff,uA hG.gd hm hk];simp [kI];omega),rfl⟩ aa
  ·refine gz ?_
   exact fin ⟨congrArg _ (by rw [Bool.eq_iff_iff,uA hG.gd hm hk];simp;omega),rfl⟩ aa
end
end Go.Proofs.YtpabnmeponmonaaGreatDoor
namespace Go.Sl
def oQ (ls:List (Value×List Sp)):Nat:=(ls.flatMap (·.2)).length
structure Sls (O:Chunk)(ls:List (Value×List Sp)):Prop where
 rd:∀x∈ls,Rd O 2 x.1 x.2.length (x.2.flatMap Sp.lay)
 sl:∀x∈ls,∃ad c,x.1 = .slice ad x.2.length c
 jd:ls.length<=100
 sum:oQ ls<=100000
theorem nE {α β:Type}(f:α->List β)(l:List α){i:Nat}(hi:i<l.length):(l.take (i+1)).flatMap f=(l.take i).flatMap f++f l[i]:=by
 rw [aK l hi,flatMap_append];simp only [flatMap_cons,flatMap_nil,append_nil]
theorem nF (l:List (Value×List Sp)){i:Nat}(hi:i<l.length):oQ (l.take (i+1))=oQ (l.take i)+l[i].2.length:=by
 rw [aK l hi];simp only [oQ,flatMap_append,length_append,flatMap_cons,flatMap_nil,append_nil]
theorem qY (l:List (Value×List Sp))(i:Nat):oQ (l.take i)<=oQ l:=by
 conv=>rhs;rw [<-take_append_drop i l]
 simp only [oQ,flatMap_append,length_append]
 omega
theorem qZ (l:List Sp)(k:Nat):(l.flatMap Sp.lay).drop (k*2)=(l.drop k).flatMap Sp.lay:=by
 induction k generalizing l with
 | zero=>simp
 | succ k ih=>cases l with
  | nil=>simp
  | cons y r=>rw [flatMap_cons,Nat.succ_mul,drop_succ_cons,<-ih r,Nat.add_comm (k*2) 2,<-drop_drop];rfl
theorem me (l:List Sp)(k:Nat):(l.flatMap Sp.lay).take (k*2)=(l.take k).flatMap Sp.lay:=by
 induction k generalizing l with
 | zero=>simp
 | succ k ih=>cases l with
  | nil=>simp
  | cons y r =>
   rw [flatMap_cons,take_succ_cons,flatMap_cons,<-ih r,Nat.succ_mul]
   show List.take (k*2+2) (_ :: _ :: _)=_ :: _ :: _
   rw [take_succ_cons,take_succ_cons];rfl
end Go.Sl
namespace Go.Proofs.YtpabnmeponmonaaGreatDoor
theorem UW (m:Nat)(hm:m<=1000000):Ct 275 [.slice none 0 0,.int .i64 m] [] fun u Bs=>∃C,aC C 164 2 u 0 []/\Bs=[C]:=by
 rcases Nat.eq_zero_or_pos m with rfl | h0
 ·refine st func275 fun w0 => ?_
  refine gz ?_
  exact fin ⟨[],aC.nil _ _,rfl⟩ aa
 ·refine st func275 fun w0 => ?_
  refine gpz ?_;intro g c l hc ng hl
  refine gv ?_
  refine gz ?_
  exact fin ⟨_,vh ng hl,rfl⟩ aa
theorem LJ (D O:Chunk)(vo:Value)(n:Nat)(ls:List (Value×List Sp))(hn:ls.length=n)(hD:Rd D 1 vo n (ls.map (·.1)))(hO:Sls O ls) :
  Ct 233 [vo] [D,O] fun u Bs=>∃C,aC C 164 2 u (oQ ls) ((ls.flatMap (·.2)).flatMap Sp.lay)/\Bs=[C,D,O]:=by
 subst hn
 obtain ⟨ad,c,rfl⟩:=hD.slice
 have mM:=hO.jd
 have ae9:=hO.sum
 refine st func233 fun w0 => ?_
 refine gl [0,9,10] (fun j:Nat=>[(11,.int .i64 j),(3,.int .i64 (oQ (ls.take j):Nat))]) (fun _=>[]) (fun j=>j<=ls.length) (fun j=>ls.length - j) 0 oZ ?_
 intro j hj
 refine gi ?_ ?_ <;> intro br
 ·have bh:j<ls.length:=oZ
  obtain ⟨b,off,rfl⟩:=hD.addr oZ
  obtain ⟨ad2,c2,UX⟩:=hO.sl ls[j] (getElem_mem bh)
  have bB:=nF ls bh
  have fS:=qY ls (j+1)
  have bX:(ls.map (·.1))[j]? = some (.slice ad2 ls[j].2.length c2):=by simp [bh,UX]
  have ha:IntKind.i64.wrap (((oQ (ls.take j):Nat):Int)+(ls[j].2.length:Nat))=((oQ (ls.take (j+1)):Nat):Int):=by rw [IntWalk.i64_in _ oZ];omega
  refine gn ?_
  exact ⟨j+1,by omega,by omega,ar,_,aa⟩
 ·obtain rfl:j=ls.length:=oZ
  rw [take_length]
  refine gc (UW (oQ ls) oZ) ?_
  rintro v0 _ ⟨C,hC,rfl⟩
  refine gl [0,25,26] (fun ((j,v,_):Nat×Value×Chunk)=>[(27,.int .i64 j),(6,v)]) (fun (_,_,C)=>[C]) (fun (j,v,C)=>j<=ls.length/\aC C 164 2 v (oQ (ls.take j)) ((ls.take j).flatMap fun x=>x.2.flatMap Sp.lay)) (fun (j,_)=>ls.length - j) (0,v0,C) ⟨by omega,hC⟩ ?_
  rintro ⟨j,v,C⟩ ⟨hj,hC⟩
  obtain ⟨kK,cv,rfl⟩:=hC.slice
  refine gi ?_ ?_ <;> intro br
  ·have bh:j<ls.length:=oZ
   obtain ⟨b,off,rfl⟩:=hD.addr oZ
   obtain ⟨ad2,c2,UX⟩:=hO.sl ls[j] (getElem_mem bh)
   have bB:=nF ls bh
   have fS:=qY ls (j+1)
   have hft:=nE (fun x:Value×List Sp=>x.2.flatMap Sp.lay) ls bh
   have qd:=hO.rd ls[j] (getElem_mem bh)
   rw [UX] at qd
   have bX:(ls.map (·.1))[j]? = some (.slice ad2 ls[j].2.length c2):=by simp [bh,UX]
   refine gp ?_;intro ia c3 C3 kP
   rw [<-bB]
   rw [<-bB,<-hft] at kP
   refine gn ?_
   exact ⟨(j+1,_,C3),⟨by omega,kP⟩,sOZ,ar,_,aa⟩
  ·obtain rfl:j=ls.length:=oZ
   rw [take_length] at hC ⊢
   refine gz ?_
   exact fin ⟨C,by rw [flatMap_assoc];exact hC,rfl⟩ aa
theorem UY (p:Nat)(l:List Sp)(mn n f:Int)(A:Chunk)(hA:Ny p l mn A)(hG:AY l)(hn:1<=n/\n<=1000000)(hf:0<=f/\f<=4000000000000000000):Ct 254 [ptr p,.int .i64 n,.int .i64 f] [A] fun u Bs=>u = .tuple #[.int .i64 (iq l n f).1,.bool (iq l n f).2]/\Bs=[A]:=by
 have hlen:=hG.len
 obtain ⟨ad,c,D,hD,rfl⟩:=hA
 have hbh:=LI p l mn f ad c D hD hG
 have jW:=hD.rd
 have afa:=hD.eH
 refine st func254 fun w0 => ?_
 refine gs ?_
 refine gd [0,4,8,12,16,20,36,25,28,32] ?_
 refine gc hbh ?_
 rintro _ _ ⟨k,rfl,hk,rfl⟩
 have kI:=hk.1
 have ny:(l.drop k).length=l.length - k:=length_drop
 have qc:((l.flatMap Sp.lay).drop (k*2)).take ((l.length - k)*2)=(l.drop k).flatMap Sp.lay:=by
  rw [qZ,me,take_of_length_le oZ]
 refine gw ?_;intro ad2 kY
 have hgd:=hG.gd.drop k
 refine gl [1,2,24,25] (fun j:Nat=>[(26,.int .i64 j)]) (fun _=>[]) (fun j=>j<=l.length - k/\jk (l.drop k) n f=jk ((l.drop k).drop j) n f) (fun j=>l.length - k - j) 0 ⟨by omega,rfl⟩ ?_
 rintro j ⟨hj,XN⟩
 refine gi ?_ ?_ <;> intro br
 ·have bh:j<(l.drop k).length:=oZ
  obtain ⟨b,off,rfl⟩:=kY.addr oZ
  have ic:=Sp.az.1 (hgd.may _ (getElem_mem bh))
  have hs:=av Sp.ak (l.drop k) j _ (getElem?_eq_getElem bh)
  rw [drop_eq_getElem_cons bh,jk] at XN
  have ya:f<((l.drop k)[j]'bh).fin:=by
   have h2:=hk.2.2 (k+j) oZ oZ
   rw [getElem_drop];exact h2
  obtain ⟨y,hy⟩:∃y,y=(l.drop k)[j]:=⟨_,rfl⟩
  rw [<-hy] at ic hs XN ya
  have hfy:y.fin=y.at_+y.many:=rfl
  refine ga ?_;intro b9
  refine gc (jc y oZ) ?_
  rintro _ _ ⟨rfl,rfl⟩
  have PI:IntKind.i64.wrap (y.fin - max y.at_ f)=y.fin - max y.at_ f:=by rw [IntWalk.i64_in _ oZ]
  refine gi ?_ ?_ <;> intro hle
  ·have hle:n<=y.fin - max y.at_ f:=by simpa using hle
   rw [if_pos ⟨by omega,hle⟩] at XN
   have ju:iq l n f=(max y.at_ f,true):=by unfold iq;rw [if_neg oZ,zl oZ hk,XN]
   rw [ju]
   refine gz ?_
   exact fin ⟨rfl,rfl⟩ aa
  ·have hle:¬n<=y.fin - max y.at_ f:=by simpa using hle
   rw [if_neg (fun h=>hle h.2)] at XN
   refine gn ?_
   exact ⟨j+1,⟨by omega,XN⟩,by omega,ar,_,aa⟩
 ·obtain rfl:j=l.length - k:=oZ
  rw [drop_of_length_le (l:=l.drop k) oZ,jk] at XN
  have ju:iq l n f=(0,false):=by unfold iq;rw [if_neg oZ,zl oZ hk,XN]
  rw [ju]
  refine gz ?_
  exact fin ⟨rfl,rfl⟩ aa
end Go.Proofs.YtpabnmeponmonaaGreatDoor
namespace Go.Sl
def qP (q:Bool):Pt:=match q with
 | true=>⟨0,0,0,1,0,0,0,0,0⟩
 | false=>⟨0,0,0,0,0,0,0,0,0⟩
def fX (out:List Sp):Sp:=out.getD (out.length - 1) ⟨0,0⟩
def Hx (out:List Sp)(a m:Int):List Sp:=if 0<out.length/\(fX out).at_+(fX out).many=a then out.set (out.length - 1) ⟨(fX out).at_,(fX out).many+m⟩ else out++[⟨a,m⟩]
def mY (n:Nat):Nat->List Bool->List Sp->List Sp
 | _,[],out=>out
 | i,q :: r,out=>if n<=i*1024 then out else mY n (i+1) r (if q then Hx out (i*1024:Nat) (min 1024 (n - i*1024):Nat) else out)
structure Nz (out:List Sp)(i:Nat):Prop where
 len:out.length<=i
 bd:∀y∈out,0<=y.at_/\0<=y.many/\y.at_+y.many<=(i*1024:Nat)
theorem Nz.up {out:List Sp}{i:Nat}(h:Nz out i):Nz out (i+1):=⟨by have:=h.len;omega,fun y hy=>by have:=h.bd y hy;omega⟩
theorem nG {out:List Sp}(h:0<out.length):out[out.length - 1]? = some (fX out):=by
 rw [fX,getD_eq_getElem?_getD,getElem?_eq_getElem oZ];rfl
theorem Nz.last {out:List Sp}{i:Nat}(h:Nz out i)(h0:0<out.length):0<=(fX out).at_/\0<=(fX out).many/\(fX out).at_+(fX out).many<=(i*1024:Nat):=h.bd _ (mem_of_getElem? (nG h0))
theorem Nz.add {out:List Sp}{i m:Nat}(h:Nz out i)(hm:m<=1024):Nz (Hx out (i*1024:Nat) m) (i+1):=by
 unfold Hx
 split
 ·rename_i c
  have h1:=h.last c.1
  have h2:=h.len
  refine ⟨by rw [length_set];omega,fun y hy => ?_⟩
  rcases mem_or_eq_of_mem_set hy with hy | rfl
  ·have:=h.bd y hy;omega
  ·simp only;omega
 ·have h2:=h.len
  refine ⟨by simp;omega,fun y hy => ?_⟩
  rcases List.mem_append.1 hy with hy | hy
  ·have:=h.bd y hy;omega
  ·rw [mem_singleton.1 hy];simp only;omega
theorem w9 {out:List Sp}{a m:Int}(h0:0<out.length)(h:(fX out).at_+(fX out).many=a):Hx out a m=out.set (out.length - 1) ⟨(fX out).at_,(fX out).many+m⟩:=if_pos ⟨h0,h⟩
theorem n9 {out:List Sp}{a m:Int}(h:¬(0<out.length/\(fX out).at_+(fX out).many=a)):Hx out a m=out++[⟨a,m⟩]:=if_neg h
theorem zn {r:List Value}{v:Int}:∀ {out:List Sp} {k:Nat} {z:Sp},out[k]? = some z->(out.flatMap Sp.lay++r).set (k*2+1) (.int .i64 v)=(out.set k ⟨z.at_,v⟩).flatMap Sp.lay++r
 | [],k,z,h=>by simp at h
 | y :: l,0,z,h=>by
  obtain rfl:y=z:=by simpa using h
  rfl
 | y :: l,k+1,z,h=>by
  have ih:=zn (r:=r) (v:=v) (out:=l) (k:=k) (z:=z) (by simpa using h)
  simp only [flatMap_cons,Sp.lay,cons_append,nil_append,set_cons_succ,Nat.succ_mul] at ih ⊢
  rw [ih]
theorem Bc (out:List Sp):∀u∈out.flatMap Sp.lay,u.oneCell'=true:=fun u hu=>by
 obtain ⟨x, -,hx⟩:=mem_flatMap.1 hu
 exact Sp.bK x u hx
theorem dL (out:List Sp):(out.flatMap Sp.lay).length=out.length*2:=by
 induction out with
 | nil=>rfl
 | cons x r ih=>rw [flatMap_cons,length_append,ih,Sp.ak,length_cons];omega
theorem xa {g c:Nat}{T:TypeId}{out:List Sp}{r:List Value}{m:Int}(h0:0<out.length)(hc:out.length<=c)(hm:c<=maxLen)(hl:(out.flatMap Sp.lay).length+r.length=c*2) :
  aC [(g,ax ((out.flatMap Sp.lay++r).set ((out.length - 1)*2+1) (.int .i64 m)) T)] T 2 (.slice (some ⟨g,0,none⟩) out.length c) out.length ((out.set (out.length - 1) ⟨(fX out).at_,m⟩).flatMap Sp.lay):=by
 rw [zn (nG h0)]
 refine ve (by rw [dL,length_set]) (Bc _) hc hm ?_
 rw [dL,length_set,<-dL];exact hl
end Go.Sl
namespace Go.Proofs.YtpabnmeponmonaaGreatDoor
theorem UZ (O:Chunk)(ad:Option Addr)(c n:Nat)(qs:List Bool)(hq:qs.length=64)(hn:n<=65536)(hR:Rd O 9 (.slice ad 64 c) 64 (aR (qs.map qP))) :
  Ct 123 [.int .i64 n,.slice ad 64 c,.int .u64 0] [O] fun u Bs=>∃bz c' D,u = .slice bz (mY n 0 qs []).length c'/\aC D 164 2 u (mY n 0 qs []).length ((mY n 0 qs []).flatMap Sp.lay)/\Bs=[D,O]:=by
 obtain ⟨g,o,rfl⟩:=hR.addr oZ
 refine st func123 fun w0 => ?_
 refine gl [0,2,13,14] (fun ((i,v7,_):Nat×Value×List Sp×Chunk)=>[(15,.int .i64 i),(7,v7)]) (fun (_,_,_,D)=>[D]) (fun (i,v7,out,D)=>i<=64/\(∃tT c7,v7 = .slice tT out.length c7)/\aC D 164 2 v7 out.length (out.flatMap Sp.lay)/\Nz out i/\mY n i (qs.drop i) out=mY n 0 qs []) (fun (i,_)=>64 - i) (0,.slice none 0 0,[],[]) ⟨by omega,⟨none,0,rfl⟩,aC.nil _ _,⟨by simp,by simp⟩,rfl⟩ ?_
 rintro ⟨i,v7,out,D⟩ ⟨hi,⟨tT,c7,rfl⟩,hD,hO,bB⟩
 refine gi ?_ ?_ <;> intro br
 ·have bh:i<qs.length:=oZ
  obtain ⟨q,Z9⟩:∃q,q=qs[i]:=⟨_,rfl⟩
  have hx:(qs.map qP)[i]? = some (qP q):=by rw [Z9];simp [getElem?_eq_getElem bh]
  have hs:=av Pt.ak (qs.map qP) i _ hx
  rw [drop_eq_getElem_cons bh,<-Z9,mY] at bB
  have Hy:=hO.len
  have aO:=hO.add (m:=min 1024 (n - i*1024)) oZ
  clear Z9 hx
  refine ga ?_;intro b9
  refine gi ?_ ?_ <;> intro agW
  ·rw [if_pos oZ] at bB
   refine gz ?_
   rw [<-bB]
   exact fin ⟨tT,c7,D,rfl,hD,rfl⟩ aa
  ·rw [if_neg oZ] at bB
   cases q
   ·refine gn ?_
    exact ⟨(i+1,_,out,D),⟨by omega,⟨tT,c7,rfl⟩,hD,hO.up,bB⟩,sOZ,ar,_,aa⟩
   ·refine go ?_
    rw [show min (1024:Int) ((n - i*1024:Nat):Int)=((min 1024 (n - i*1024):Nat):Int) by omega]
    simp only [if_true] at bB
    obtain ⟨m,hm⟩:∃m,m=min 1024 (n - i*1024):=⟨_,rfl⟩
    rw [<-hm] at bB aO ⊢
    have KD:m<=1024:=oZ
    by_cases h0:0<out.length
    ·obtain ⟨oR,c8,r,hv,rfl,Lj,ng,yn⟩:=hD.opened oZ
     cases hv
     have hz:=nG h0
     have lV:=av Sp.ak out (out.length - 1) _ hz
     have U0:=hO.last h0
     have dP:=fun mm=>xa (g:=oR) (T:=164) (m:=mm) h0 Lj ng yn
     obtain ⟨z,JD⟩:∃z,z=fX out:=⟨_,rfl⟩
     rw [<-JD] at lV U0 dP
     have ZT:IntKind.i64.wrap (z.at_+z.many)=z.at_+z.many:=IntWalk.i64_in _ oZ
     have Nv:IntKind.i64.wrap (z.many+(m:Int))=z.many+m:=IntWalk.i64_in _ oZ
     have jv:(out.length:Int) - 1=((out.length - 1:Nat):Int):=oZ
     rw [jv]
     have ju:=dL out
     have Qk:(out.flatMap Sp.lay++r)[(out.length - 1)*2+0]? = some (.int .i64 z.at_):=by rw [getElem?_append_left oZ];exact lV 0 _ rfl
     have Ql:(out.flatMap Sp.lay++r)[(out.length - 1)*2+1]? = some (.int .i64 z.many):=by rw [getElem?_append_left oZ];exact lV 1 _ rfl
     refine gi ?_ ?_ <;> intro hj
     ·rw [w9 h0 (by rw [<-JD];omega),<-JD] at bB aO
      refine gn ?_
      exact ⟨(i+1,_,out.set (out.length - 1) ⟨z.at_,z.many+m⟩,[(oR,ax ((out.flatMap Sp.lay++r).set ((out.length - 1)*2+1) (.int .i64 (z.many+m))) 164)]),⟨by omega,⟨_,c7,by rw [length_set]⟩,by rw [length_set];exact dP _,aO,bB⟩,sOZ,ar,_,aa⟩
     ·rw [n9 (by rw [<-JD];omega)] at bB aO
      refine gm ?_;intro b0
      refine gp ?_;intro ze c8 D8 Qm
      refine gn ?_
      exact ⟨(i+1,_,out++[⟨(i*1024:Nat),m⟩],D8),⟨by omega,⟨ze,c8,by rw [length_append]⟩,by simpa [Sp.lay] using Qm,aO,bB⟩,sOZ,ar,_,aa⟩
    ·rw [n9 oZ] at bB aO
     refine gm ?_;intro b0
     refine gp ?_;intro ze c8 D8 Qm
     refine gn ?_
     exact ⟨(i+1,_,out++[⟨(i*1024:Nat),m⟩],D8),⟨by omega,⟨ze,c8,by rw [length_append]⟩,by simpa [Sp.lay] using Qm,aO,bB⟩,sOZ,ar,_,aa⟩
 ·obtain rfl:i=64:=oZ
  rw [drop_eq_nil_of_le oZ,mY] at bB
  refine gz ?_
  rw [<-bB]
  exact fin ⟨tT,c7,D,rfl,hD,rfl⟩ aa
theorem LK (O:Chunk)(ad:Option Addr)(c n:Nat)(qs:List Bool)(hq:qs.length=64)(hn:n<=65536)(hR:Rd O 9 (.slice ad 64 c) 64 (aR (qs.map qP))) :
  Ct 124 [.int .i64 n,.slice ad 64 c,.int .u64 0] [O] fun u Bs=>∃bz c' D,u = .slice bz (mY n 0 qs []).length c'/\aC D 164 2 u (mY n 0 qs []).length ((mY n 0 qs []).flatMap Sp.lay)/\Bs=[D,O]:=by
 obtain ⟨g,o,rfl⟩:=hR.addr oZ
 refine st func124 fun w0 => ?_
 refine gl [0,1,2] (fun ((i,v7,_):Nat×Value×List Sp×Chunk)=>[(8,.int .i64 i),(7,v7)]) (fun (_,_,_,D)=>[D]) (fun (i,v7,out,D)=>i<=64/\(∃tT c7,v7 = .slice tT out.length c7)/\aC D 164 2 v7 out.length (out.flatMap Sp.lay)/\Nz out i/\mY n i (qs.drop i) out=mY n 0 qs []) (fun (i,_)=>64 - i) (0,.slice none 0 0,[],[]) ⟨by omega,⟨none,0,rfl⟩,aC.nil _ _,⟨by simp,by simp⟩,rfl⟩ ?_
 rintro ⟨i,v7,out,D⟩ ⟨hi,⟨tT,c7,rfl⟩,hD,hO,bB⟩
 have Hy:=hO.len
 by_cases ED:i<64/\1024*i<n
 ·have bh:i<qs.length:=oZ
  obtain ⟨q,Z9⟩:∃q,q=qs[i]:=⟨_,rfl⟩
  have hx:(qs.map qP)[i]? = some (qP q):=by rw [Z9];simp [getElem?_eq_getElem bh]
  have hs:=av Pt.ak (qs.map qP) i _ hx
  rw [drop_eq_getElem_cons bh,<-Z9,mY,if_neg oZ] at bB
  have aO:=hO.add (m:=min 1024 (n - i*1024)) oZ
  rw [Nat.mul_comm i 1024] at bB aO
  have hdv:i<=(n - 1) / 1024:=oZ
  clear Z9 hx
  cases q
  ·refine gn ?_
   exact ⟨(i+1,_,out,D),⟨by omega,⟨tT,c7,rfl⟩,hD,hO.up,bB⟩,sOZ,ar,_,aa⟩
  ·simp only [if_true] at bB
   have U3:=hs 3 _ rfl
   refine gi ?_ ?_ <;> intro Cj
   ·obtain ⟨m,hm⟩:∃m,m=n - 1024*i:=⟨_,rfl⟩
    rw [show min 1024 (n - 1024*i)=m by omega] at bB aO
    refine go ?_
    rw [<-hm]
    have KD:Nz (Hx out (1024*i:Nat) (m:Int)) (i+1):=aO
    by_cases h0:0<out.length
    ·obtain ⟨oR,c8,r,hv,rfl,Lj,ng,yn⟩:=hD.opened oZ
     cases hv
     have hz:=nG h0
     have lV:=av Sp.ak out (out.length - 1) _ hz
     have U0:=hO.last h0
     have dP:=fun mm=>xa (g:=oR) (T:=164) (m:=mm) h0 Lj ng yn
     obtain ⟨z,JD⟩:∃z,z=fX out:=⟨_,rfl⟩
     rw [<-JD] at lV U0 dP
     have ZT:IntKind.i64.wrap (z.at_+z.many)=z.at_+z.many:=IntWalk.i64_in _ oZ
     have Nv:IntKind.i64.wrap (z.many+(m:Int))=z.many+(m:Int):=IntWalk.i64_in _ oZ
     have ju:=dL out
     have Qk:(out.flatMap Sp.lay++r)[(out.length - 1)*2+0]? = some (.int .i64 z.at_):=by rw [getElem?_append_left oZ];exact lV 0 _ rfl
     have Ql:(out.flatMap Sp.lay++r)[(out.length - 1)*2+1]? = some (.int .i64 z.many):=by rw [getElem?_append_left oZ];exact lV 1 _ rfl
     refine gi ?_ ?_ <;> intro hj
     ·rw [w9 h0 (by rw [<-JD];omega),<-JD] at bB aO
      refine gn ?_
      exact ⟨(i+1,_,out.set (out.length - 1) ⟨z.at_,z.many+(m:Int)⟩,[(oR,ax ((out.flatMap Sp.lay++r).set ((out.length - 1)*2+1) (.int .i64 (z.many+(m:Int)))) 164)]),⟨by omega,⟨_,c7,by rw [length_set]⟩,by rw [length_set];exact dP _,aO,bB⟩,sOZ,ar,_,aa⟩
     ·rw [n9 (by rw [<-JD];omega)] at bB aO
      refine gm ?_;intro b0
      refine gp ?_;intro ze c8 D8 Qm
      refine gn ?_
      exact ⟨(i+1,_,out++[⟨(1024*i:Nat),(m:Int)⟩],D8),⟨by omega,⟨ze,c8,by rw [length_append]⟩,by simpa [Sp.lay] using Qm,aO,bB⟩,sOZ,ar,_,aa⟩
    ·rw [n9 oZ] at bB aO
     refine gm ?_;intro b0
     refine gp ?_;intro ze c8 D8 Qm
     refine gn ?_
     exact ⟨(i+1,_,out++[⟨(1024*i:Nat),(m:Int)⟩],D8),⟨by omega,⟨ze,c8,by rw [length_append]⟩,by simpa [Sp.lay] using Qm,aO,bB⟩,sOZ,ar,_,aa⟩
   ·rw [show min 1024 (n - 1024*i)=1024 by omega] at bB aO
    have KD:Nz (Hx out (1024*i:Nat) (1024:Int)) (i+1):=aO
    by_cases h0:0<out.length
    ·obtain ⟨oR,c8,r,hv,rfl,Lj,ng,yn⟩:=hD.opened oZ
     cases hv
     have hz:=nG h0
     have lV:=av Sp.ak out (out.length - 1) _ hz
     have U0:=hO.last h0
     have dP:=fun mm=>xa (g:=oR) (T:=164) (m:=mm) h0 Lj ng yn
     obtain ⟨z,JD⟩:∃z,z=fX out:=⟨_,rfl⟩
     rw [<-JD] at lV U0 dP
     have ZT:IntKind.i64.wrap (z.at_+z.many)=z.at_+z.many:=IntWalk.i64_in _ oZ
     have Nv:IntKind.i64.wrap (z.many+(1024:Int))=z.many+(1024:Int):=IntWalk.i64_in _ oZ
     have ju:=dL out
     have Qk:(out.flatMap Sp.lay++r)[(out.length - 1)*2+0]? = some (.int .i64 z.at_):=by rw [getElem?_append_left oZ];exact lV 0 _ rfl
     have Ql:(out.flatMap Sp.lay++r)[(out.length - 1)*2+1]? = some (.int .i64 z.many):=by rw [getElem?_append_left oZ];exact lV 1 _ rfl
     refine gi ?_ ?_ <;> intro hj
     ·rw [w9 h0 (by rw [<-JD];omega),<-JD] at bB aO
      refine gn ?_
      exact ⟨(i+1,_,out.set (out.length - 1) ⟨z.at_,z.many+(1024:Int)⟩,[(oR,ax ((out.flatMap Sp.lay++r).set ((out.length - 1)*2+1) (.int .i64 (z.many+(1024:Int)))) 164)]),⟨by omega,⟨_,c7,by rw [length_set]⟩,by rw [length_set];exact dP _,aO,bB⟩,sOZ,ar,_,aa⟩
     ·rw [n9 (by rw [<-JD];omega)] at bB aO
      refine gm ?_;intro b0
      refine gp ?_;intro ze c8 D8 Qm
      refine gn ?_
      exact ⟨(i+1,_,out++[⟨(1024*i:Nat),(1024:Int)⟩],D8),⟨by omega,⟨ze,c8,by rw [length_append]⟩,by simpa [Sp.lay] using Qm,aO,bB⟩,sOZ,ar,_,aa⟩
    ·rw [n9 oZ] at bB aO
     refine gm ?_;intro b0
     refine gp ?_;intro ze c8 D8 Qm
     refine gn ?_
     exact ⟨(i+1,_,out++[⟨(1024*i:Nat),(1024:Int)⟩],D8),⟨by omega,⟨ze,c8,by rw [length_append]⟩,by simpa [Sp.lay] using Qm,aO,bB⟩,sOZ,ar,_,aa⟩
 ·have oK:mY n 0 qs []=out:=by
   rw [<-bB]
   by_cases h64:i<64
   ·have bh:i<qs.length:=oZ
    rw [drop_eq_getElem_cons bh,mY,if_pos oZ]
   ·rw [drop_eq_nil_of_le oZ,mY]
  rw [oK]
  by_cases h64:i<64
  ·have hdv:n=0\/(n - 1) / 1024<i:=oZ
   rcases hdv with rfl | hdv
   ·refine gz ?_
    exact fin ⟨tT,c7,D,rfl,hD,rfl⟩ aa
   ·by_cases hn0:n=0
    ·subst hn0
     refine gz ?_
     exact fin ⟨tT,c7,D,rfl,hD,rfl⟩ aa
    ·refine gz ?_
     exact fin ⟨tT,c7,D,rfl,hD,rfl⟩ aa
  ·obtain rfl:i=64:=oZ
   refine gz ?_
   exact fin ⟨tT,c7,D,rfl,hD,rfl⟩ aa
theorem JE (l:List Sp)(n:Nat)(hn:l.length=n)(D1 D2:Chunk)(iY ad2:Option Addr)(c1 c2:Nat)(h1:Rd D1 2 (.slice iY n c1) n (l.flatMap Sp.lay))(h2:Rd D2 2 (.slice ad2 n c2) n (l.flatMap Sp.lay)) :
  Ct 64 [.slice iY n c1,.slice ad2 n c2] [D1,D2] fun u Bs=>u = .bool true/\Bs=[D1,D2]:=by
 have G1:=h1.2.2.1
 simp only [maxLen] at G1
 refine st func64 fun w0 => ?_
 refine gl [0,1] (fun (i:Nat)=>[(5,.int .i64 i)]) (fun _=>[]) (fun i=>i<=n) (fun i=>n - i) 0 oZ ?_
 rintro i hi
 refine gi ?_ ?_ <;> intro br
 ·obtain ⟨g1,o1,rfl⟩:=h1.addr oZ
  obtain ⟨g2,o2,rfl⟩:=h2.addr oZ
  have hs:=av Sp.ak l i _ (getElem?_eq_getElem oZ)
  refine gi ?_ ?_ <;> intro hb
  ·simp at hb
  ·refine gn ?_
   exact ⟨i+1,by omega,by omega,ar,_,aa⟩
 ·obtain rfl:i=n:=oZ
  refine gz ?_
  exact fin ⟨rfl,rfl⟩ aa
end Go.Proofs.YtpabnmeponmonaaGreatDoor
