/-
  Texts put together (15).
-/
import Derived.Test.YtcfioaeamfappaaGreatDoorZTopFull14
namespace Go.Sl
def oE (l:List Pt)(k:Nat):List Pt:=l++List.replicate (k+1 - l.length) ah
theorem Ei (l:List Pt)(k:Nat):(oE l k).length=max l.length (k+1):=by simp [oE];omega
theorem La {l:List Pt}{k:Nat}(h:l.length<=k):oE l k=oE (l++[ah]) k:=by
 unfold oE
 rw [List.length_append,List.append_assoc]
 congr 1
 rw [show k+1 - l.length=(k+1 - (l.length+[ah].length))+1 by simp;omega,List.replicate_succ];rfl
theorem Lb {l:List Pt}{k:Nat}(h:k<l.length):oE l k=l:=by unfold oE;rw [show k+1 - l.length=0 by omega];simp
inductive Mh (pr:Bool)(ls:List (Option Lv))(n gt:Nat)(fresh:List (Int×List UInt8))(P:PS)(l0:List Pt):List Int->PS->List Pt->Prop
 | nil:Mh pr ls n gt fresh P l0 [] P l0
 | snoc {ks:List Int} {P1 P2:PS} {l1:List Pt} {k:Int} {b:List UInt8} {pt:Pt}:Mh pr ls n gt fresh P l0 ks P1 l1->aH fresh k=some b->l4 pr ls n gt P1 b P2 pt->Mh pr ls n gt fresh P l0 (ks++[k]) P2 ((oE l1 k.toNat).set k.toNat pt)
theorem Ej (l:List Pt):∀u∈l.flatMap Pt.lay,u.oneCell'=true:=fun u hu=>by
 obtain ⟨x, -,hx⟩:=List.mem_flatMap.1 hu
 simp only [Pt.lay,List.mem_cons,List.not_mem_nil,or_false] at hx
 rcases hx with rfl | rfl | rfl | rfl | rfl | rfl | rfl | rfl | rfl <;> rfl
def wu (pr:Bool)(ls:List (Option Lv))(n gt:Nat)(P:PS)(o:Ob)(P':PS)(o':Ob):Prop :=
 ∃ks P1 l1 idx root,ks.Perm (o.fresh.map (·.1))/\ks.Pairwise (· <= ·)/\Mh pr ls n gt o.fresh P o.ay ks P1 l1/\qd pr ls n gt P1 P' l1 idx root/\o'={ o with root:=root,ay:=l1,index:=idx,fresh:=[],clean:=true }
theorem jA.le {qs:List Nat}{pr:Bool}{ls:List (Option Lv)}{n:Nat}{P:PS}{c d:Nat}(h:jA qs pr ls n P d)(hcd:c<=d):jA qs pr ls n P c :=
 ⟨h.on,h.lv,by have:=h.ws;omega,by have:=h.rm;omega,by have:=h.ks;omega⟩
section
variable {X:Cx}{f:Fx}{ops:List Oper}{k:Kt}{Ms Ls Rs:List Chunk}{κ:Nat}{r':aA}{e:Env}
structure EP {α:Type}(lay:α->List Value)(_y0:α)(_xs:List α)(_i:Nat)(s:Nat):Prop where
 h:∀a,(lay a).length=s
theorem WD.P9 {α:Type}{lay:α->List Value}{y0:α}{xs:List α}{vs r:List Value}{b i j s:Nat}{t T:TypeId}{x y:Operand}(hl:EP lay y0 xs i s)(hκ:dD κ=true)(hx:ev e x=some (.pointer (some ⟨b,j,none⟩)))(hy:ev e y=some (.agg vs.toArray))(hv:vs=lay y0)(hvl:vs.length=s)(h1:vs.all (·.oneCell')=true)(hT:X.T.Ok X.P)(hs:X.T.sz t=some s)(hp:Ls.Perm ([(b,av (xs.flatMap lay++r) T)] :: Rs))(hi:i<xs.length)(hj:j=i*s)
  (hk:cJ κ Ms ([(b,av ((xs.set i y0).flatMap lay++r) T)] :: Rs)) (g:WO X f ops k Ms r' e ([(b,av ((xs.set i y0).flatMap lay++r) T)] :: Rs)):WD X f ops k Ms κ none (.store t x y) r' e Ls:=by
 subst hvl hj
 have hl:=hl.h
 have hlen:(xs.flatMap lay).length=xs.length*vs.length:=fL hl
 have hm:i*vs.length+vs.length<=xs.length*vs.length:=by
  have:=Nat.mul_le_mul_right vs.length (show i+1<=xs.length from hi)
  rwa [Nat.succ_mul] at this
 refine .zg hκ hx hy h1 hT hs hp (by rw [List.length_append];omega) ?_ hk g
 rw [qU _ _ _ (by rw [List.length_append];omega),Bv hl y0 xs i hi,<-hv,List.take_append_of_le_length oZ,List.drop_append_of_le_length oZ,List.append_assoc,List.append_assoc,List.append_assoc]
end
end Go.Sl
namespace Go.Proofs.YtcfioaeamfappaaGreatDoor
open Go.Sl
set_option maxRecDepth 10000
set_option maxHeartbeats 4000000
theorem gse {G H:Prop}{α:Type}(lay:α->List Value)(y0:α)(xs:List α)(i:Nat)(s:Nat)(hs:∀a,(lay a).length=s)(k:H)(h:EP lay y0 xs i s->gE H->G:=by
 intro hs kk;refine go ?_;refine WO.dec rfl ?_
 apply WD.P9 hs;exact rfl;exact rfl;exact rfl;exact rfl;exact rfl;exact rfl;exact aB;exact rfl;exact pick;exact om;exact om;exact keeps;exact kk.out):G:=h ⟨hs⟩ ⟨k⟩
section
variable (T:TypeId)(fr:Nat×Nat)(p:Nat)(qs:List Nat)(t pool:Nat)(tp:Tp)(pr:Bool)(n:Nat)(ls:List (Option Lv))(no:Nat)(V:Chunk)(hV:jd t pool tp pr n ls no V)(ok:dE tp pr n ls.length)(dx:n<=2048)(hall:∀x∈ls,x≠none)
variable (s al:Nat)(ra rd txg note:Nat)(g gt:Nat)(ib:1<=gt/\gt<=281474976710656)
include hV ok dx hall ib
theorem Qa (P:PS)(c:Nat)(a:Nat)(o:Ob)(A:Chunk)(Bh:Wr a o A)(qE:o.clean=false)(NL:Nat)(Zv:NL<=64)(hP:jA qs pr ls n P (c+xa NL+o.fresh.length))(hkb:∀e∈o.fresh,0<=e.1/\e.1<NL/\e.2.length<=1024)(jo:o.fresh.length<=64)(mj:o.ay.length<=NL)(tt:∀x∈o.ay,fy x=0/\x.Ok)(G C Al:Chunk)(hG:rG g s gt ((aN pr ls.length 1024:Nat):Int) P.ks G)(hC:br p qs P.R C)(hA:oN al ((bD pr ls.length n:Nat):Int) ((aN pr ls.length 1024:Nat):Int) P.x Al) :
  Ct 161 [ptr g,ptr a] [G,[(s,bS t (ptr al) ra rd txg note)],gK T fr,C,V,Al,A] fun u Bs=>∃P' a' o' A',wu pr ls n gt P o P' o'/\jA qs pr ls n P' c/\Wr a' o' A'/\u = .tuple #[ptr a',.int .i64 0] /\
   ∃G' C' jI,rG g s gt ((aN pr ls.length 1024:Nat):Int) P'.ks G'/\br p qs P'.R C'/\oN al ((bD pr ls.length n:Nat):Int) ((aN pr ls.length 1024:Nat):Int) P'.x jI/\Bs=[G',[(s,bS t (ptr al) ra rd txg note)],gK T fr,C',V,jI,A,A']:=by
 have hz:=P7 pr ok.hw ⟨ok.hn.1,dx⟩
 have bL:=fun P c hP G C Al hG hC hA b L hL KK O v hO=>IZ T fr p qs t pool tp pr n ls no V hV ok dx hall s al ra rd txg note g gt ib P c hP G C Al hG hC hA b L hL KK O v hO
 obtain ⟨je,cP,DP,dP,cI,DX,r,LF,CF,VF,Up,Ak,hM,hF,rfl⟩:=Bh
 have Fk:=hF.keys
 have hLF:LF.length=o.fresh.length:=by have:=congrArg List.length Fk;simpa using this.symm
 have ek:=hM.nodup
 refine st Tryz.func161 fun w0 => ?_
 rw [qE]
 refine gs ?_
 refine uC .i64 ?_;intro r6 C6 h6
 refine ga ?_;intro a'
 refine gc (ep DP je o.ay.length cP _ Up.rd oZ) ?_
 rintro _ _ ⟨iI,c1,D1,rfl,A7,rfl⟩
 refine gc (SG r) ?_
 rintro _ _ ⟨bk,rfl,rfl⟩
 refine gc (Ns bk r LF CF hM oZ) ?_
 rintro _ _ ⟨kl,adK,cK,DK,IN,aep,rfl,hDK,rfl⟩
 have Zw:=hDK.rd
 have lV:kl.length=LF.length:=by have:=IN.length_eq;simpa using this
 refine gl [0,1,6,37,38] (fun ((i,_):Nat×List Pt×Option Addr×Nat×Chunk×PS×Chunk×Chunk×Chunk)=>[(39,.int .i64 i)]) (fun (_,l1,iI,c1,D1,P1,G,C,Al)=>[[(a',xu o.used o.size o.root (.slice iI l1.length c1) (.slice none 0 0) r6 true)],D1,G,C,Al]) (fun (i,l1,iI,c1,D1,P1,G,C,Al)=>i<=kl.length/\az D1 85 9 (.slice iI l1.length c1) l1.length (aO l1)/\l1.length<=NL/\(∀x∈l1,fy x=0/\x.Ok)/\Mh pr ls n gt o.fresh P o.ay (kl.take i) P1 l1/\jA qs pr ls n P1 (c+xa NL+(o.fresh.length - i))/\rG g s gt ((aN pr ls.length 1024:Nat):Int) P1.ks G/\br p qs P1.R C/\oN al ((bD pr ls.length n:Nat):Int) ((aN pr ls.length 1024:Nat):Int) P1.x Al) (fun (i,_)=>kl.length - i) (0,o.ay,iI,c1,D1,P,G,C,Al) ⟨by omega,A7,mj,tt,.nil,hP,hG,hC,hA⟩ ?_
 clear A7 hP hG hC hA
 rintro ⟨i,l1,iI,c1,D1,P1,G,C,Al⟩ ⟨hi,A7,s7,Qb,oQ,RO,hG,hC,hA⟩
 refine gi ?_ ?_ <;> intro bh
 ·have bo:i<kl.length:=by omega
  obtain ⟨kz,jz⟩:∃kz,kz=kl[i]:=⟨_,rfl⟩
  have RJ:(ints kl)[i]? = some (.int .i64 kz):=by rw [jz];simp [ints,bo]
  have hkm:kz∈LF.map (·.1):=IN.mem_iff.1 (by rw [jz];exact List.getElem_mem _)
  rcases hF.look kz with ⟨e1,e2, -⟩ | ⟨v9,b9,U1,D9,U2,e1,e2,rfl,Fl, -, -⟩
  ·exact absurd (by rw [Fk];exact hkm) (pV e2)
  ·have Zx:=hkb _ (aI e2)
   obtain ⟨k,rfl⟩:∃k:Nat,kz=k:=⟨kz.toNat,by have:=Zx.1;simp only at this;omega⟩
   have Qc:k<NL:=by have:=Zx.2.1;simp only at this;omega
   have hb9:b9.length<=1024:=Zx.2.2
   have GV:az D9 5 1 v9 b9.length (ak b9):=Fl
   obtain ⟨Md,c9,rfl⟩:=GV.slice
   obtain ⟨gK_,oK_,rfl⟩:=Zw.addr oZ
   refine gs ?_
   refine gl [0,1,6,8,37,38,39] (fun (_:List Pt×Option Addr×Nat×Chunk)=>[]) (fun (l2,ad2,c2,D2)=>[[(a',xu o.used o.size o.root (.slice ad2 l2.length c2) (.slice none 0 0) r6 true)],D2]) (fun (l2,ad2,c2,D2)=>az D2 85 9 (.slice ad2 l2.length c2) l2.length (aO l2)/\l2.length<=NL/\(∀x∈l2,fy x=0/\x.Ok)/\oE l2 k=oE l1 k) (fun (l2,_)=>64 - l2.length) (l1,iI,c1,D1) ⟨A7,s7,Qb,rfl⟩ ?_
   clear A7
   rintro ⟨l2,ad2,c2,D2⟩ ⟨BR,jc,abK,Zy⟩
   refine gi ?_ ?_ <;> intro hlen
   ·refine gm ?_;intro b56
    refine gp ?_;intro fJ c3 D3 Yl
    have hl3:(l2++[ah]).length=l2.length+1:=by simp
    refine gn ?_
    refine ⟨(l2++[ah],fJ,c3,D3),⟨by rw [hl3];simpa [aO,Pt.lay,ah] using Yl,by omega,fun x hx => ?_,by rw [<-Zy];exact (La oZ).symm⟩,by simp only;omega,aq,_,(by simp only [hl3];exact aa)⟩
    rcases List.mem_append.1 hx with hx | hx
    ·exact abK x hx
    ·rw [List.mem_singleton.1 hx];exact ⟨by simp [fy],dw⟩
   ·have gM:k<l2.length:=by omega
    rw [Lb gM] at Zy
    have xB:jA qs pr ls n P1 (c+xa NL+(o.fresh.length - (i+1))+1):=RO.le oZ
    have sV:=bL P1 _ xB G C Al hG hC hA b9 _ rfl hb9 D9 _ GV.rd
    obtain ⟨gP,cP2,rP,hvP,rfl,aeq,aer,aes⟩:=BR.opened oZ
    cases hvP
    refine gs ?_
    refine gc sV ?_
    rintro _ _ ⟨P2,pt,lO,rfl,G',C',jI,xq,bA,dX,rfl⟩
    refine ga ?_;intro b9_
    refine gse Pt.lay pt l2 k 9 (fun _=>rfl) ?_
    have eQ:(l2.set k pt).length=l2.length:=List.length_set ..
    refine gn ?_
    refine ⟨(i+1,l2.set k pt,some ⟨gP,0,none⟩,c2,_,P2,G',C',jI),⟨by omega,by rw [eQ];exact ⟨by rw [fL (lay:=Pt.lay) (s:=9) (fun _=>rfl),eQ],Ej _,.inr ⟨gP,c2,rP,rfl,rfl,aeq,aer,by rw [<-aes,fL (lay:=Pt.lay) (s:=9) (fun _=>rfl),eQ,fL (lay:=Pt.lay) (s:=9) (fun _=>rfl)]⟩⟩,by omega,fun x hx => ?_, ?_,lO.ok ok.hw ok.hp hb9 xB,xq,bA,dX⟩,by simp only;omega,aq,_,by simp only [eQ];exact aa⟩
    ·rcases List.mem_or_eq_of_mem_set hx with hx | rfl
     ·exact abK x hx
     ·exact lO.pok hz hb9 ib
    ·rw [gV bo,<-jz,Zy]
     exact .snoc oQ e2 lO
 ·obtain rfl:i=kl.length:=by omega
  rw [List.take_of_length_le oZ] at oQ
  have xB:jA qs pr ls n P1 (c+xa l1.length):=RO.le (by have:=P8 s7;omega)
  have hov:=Zs T fr p qs t pool tp pr n ls no V hV ok dx hall s al ra rd txg note g gt ib P1 c l1 l1.length rfl oZ Qb xB G C Al hG hC hA D1 iI c1 A7.rd A7.dL
  refine gc hov ?_
  rintro _ _ ⟨P2,idx,root,adX,cX,DX',abL,I0,rfl,hDX,G',C',jI,xq,bA,dX,rfl⟩
  refine gz ?_
  exact fin ⟨P2,a',{ o with root:=root,ay:=l1,index:=idx,fresh:=[],clean:=true },_,⟨kl,P1,l1,idx,root,by rw [Fk];exact IN,aep,oQ,abL,rfl⟩,I0,⟨iI,c1,D1,adX,cX,DX',r6,[],C6,[],A7,hDX,h6,rfl,rfl⟩,rfl,G',C',jI,xq,bA,dX,rfl⟩ aa
end
end Go.Proofs.YtcfioaeamfappaaGreatDoor
namespace Go.Sl
def oG (ls:List (Value×List Pt)):Nat:=(ls.flatMap (·.2)).length
structure abM (O:Chunk)(ls:List (Value×List Pt)):Prop where
 rd:∀x∈ls,Rd O 9 x.1 x.2.length (aO x.2)
 sl:∀x∈ls,∃ad c,x.1 = .slice ad x.2.length c
 jE:ls.length<=100
 sum:oG ls<=100000
theorem mP (l:List (Value×List Pt)){i:Nat}(hi:i<l.length):oG (l.take (i+1))=oG (l.take i)+l[i].2.length:=by
 rw [aG l hi];simp only [oG,List.flatMap_append,List.length_append,List.flatMap_cons,List.flatMap_nil,List.append_nil]
theorem qf (l:List (Value×List Pt))(i:Nat):oG (l.take i)<=oG l:=by
 conv=>rhs;rw [<-List.take_append_drop i l]
 simp only [oG,List.flatMap_append,List.length_append]
 omega
theorem Zz (x:Pt):(x.top==0&&(x.at_==0&&(x.bytes==0&&((x.bj:Int)==0&&(x.kind==0&&((x.a:Int)==0&&((x.b:Int)==0&&((x.c:Int)==0&&(x.d:Int)==0))))))))=decide (x=ah):=by
 cases x
 rw [Bool.eq_iff_iff]
 simp [ah]
def bI (l:List Pt):List Pt:=l.filter fun x=>decide (x≠ah)
theorem Ha {l:List Pt}{i:Nat}(hi:i<l.length):bI (l.take (i+1))=bI (l.take i)++if l[i]=ah then [] else [l[i]]:=by
 unfold bI
 rw [aG l hi,List.filter_append]
 by_cases h:l[i]=ah <;> simp [h]
end Go.Sl
namespace Go.Proofs.YtcfioaeamfappaaGreatDoor
open Go.Sl
set_option maxRecDepth 10000
set_option maxHeartbeats 4000000
theorem Uq (m:Nat)(hm:m<=1000000):Ct 183 [.slice none 0 0,.int .i64 m] [] fun u Bs=>∃C,az C 85 9 u 0 []/\Bs=[C]:=by
 rcases Nat.eq_zero_or_pos m with rfl | h0
 ·refine st Tryz.func183 fun w0 => ?_
  refine gz ?_
  exact fin ⟨[],az.nil _ _,rfl⟩ aa
 ·refine st Tryz.func183 fun w0 => ?_
  refine gpz ?_;intro g c l hc lS hl
  refine gv ?_
  refine gz ?_
  exact fin ⟨_,tZ lS hl,rfl⟩ aa
theorem Lc (D O:Chunk)(vo:Value)(n:Nat)(ls:List (Value×List Pt))(hn:ls.length=n)(hD:Rd D 1 vo n (ls.map (·.1)))(hO:abM O ls) :
  Ct 130 [vo] [D,O] fun u Bs=>∃C,az C 85 9 u (oG ls) (aO (ls.flatMap (·.2)))/\Bs=[C,D,O]:=by
 subst hn
 obtain ⟨ad,c,rfl⟩:=hD.slice
 have nJ:=hO.jE
 have ads:=hO.sum
 refine st Tryz.func130 fun w0 => ?_
 refine gl [0,9,10] (fun j:Nat=>[(11,.int .i64 j),(3,.int .i64 (oG (ls.take j):Nat))]) (fun _=>[]) (fun j=>j<=ls.length) (fun j=>ls.length - j) 0 oZ ?_
 intro j hj
 refine gi ?_ ?_ <;> intro bh
 ·have bo:j<ls.length:=by omega
  obtain ⟨b,off,rfl⟩:=hD.addr oZ
  obtain ⟨ad2,c2,TD⟩:=hO.sl ls[j] (List.getElem_mem bo)
  have cu:=mP ls bo
  have fM:=qf ls (j+1)
  have bV:(ls.map (·.1))[j]? = some (.slice ad2 ls[j].2.length c2):=by simp [bo,TD]
  have ha:IntKind.i64.wrap (((oG (ls.take j):Nat):Int)+(ls[j].2.length:Nat))=((oG (ls.take (j+1)):Nat):Int):=by rw [IntWalk.i64_in _ oZ];omega
  refine gn ?_
  exact ⟨j+1,by omega,by omega,aq,_,aa⟩
 ·obtain rfl:j=ls.length:=by omega
  rw [List.take_length]
  refine gc (Uq (oG ls) oZ) ?_
  rintro v0 _ ⟨C,hC,rfl⟩
  refine gl [0,25,26] (fun ((j,v,_):Nat×Value×Chunk)=>[(27,.int .i64 j),(6,v)]) (fun (_,_,C)=>[C]) (fun (j,v,C)=>j<=ls.length/\az C 85 9 v (oG (ls.take j)) ((ls.take j).flatMap fun x=>aO x.2)) (fun (j,_)=>ls.length - j) (0,v0,C) ⟨by omega,hC⟩ ?_
  rintro ⟨j,v,C⟩ ⟨hj,hC⟩
  obtain ⟨j2,cv,rfl⟩:=hC.slice
  refine gi ?_ ?_ <;> intro bh
  ·have bo:j<ls.length:=by omega
   obtain ⟨b,off,rfl⟩:=hD.addr oZ
   obtain ⟨ad2,c2,TD⟩:=hO.sl ls[j] (List.getElem_mem bo)
   have cu:=mP ls bo
   have fM:=qf ls (j+1)
   have hft:=mE (fun x:Value×List Pt=>aO x.2) ls bo
   have oM:=hO.rd ls[j] (List.getElem_mem bo)
   rw [TD] at oM
   have bV:(ls.map (·.1))[j]? = some (.slice ad2 ls[j].2.length c2):=by simp [bo,TD]
   refine gp ?_;intro fJ c3 C3 ka
   rw [<-cu]
   rw [<-cu,<-hft] at ka
   refine gn ?_
   exact ⟨(j+1,_,C3),⟨by omega,ka⟩,by simp only;omega,aq,_,aa⟩
  ·obtain rfl:j=ls.length:=by omega
   rw [List.take_length] at hC ⊢
   refine gz ?_
   exact fin ⟨C,by rw [aO,List.flatMap_assoc];exact hC,rfl⟩ aa
theorem tF (a:Nat)(o:Ob)(je:Option Addr)(cP:Nat)(DP:Chunk)(dP:Option Addr)(cI:Nat)(DX:Chunk)(r:Nat)(Up:az DP 85 9 (.slice je o.ay.length cP) o.ay.length (aO o.ay))(Ak:az DX 85 9 (.slice dP o.index.length cI) o.index.length (aO o.index))(h1:o.ay.length<=100)(h2:o.index.length<=100):Ct 74 [ptr a] [[(a,xu o.used o.size o.root (.slice je o.ay.length cP) (.slice dP o.index.length cI) r o.clean)],DP,DX] fun u Bs=>∃ad c D,u = .slice ad (bI (o.ay++o.index)).length c/\az D 85 9 (.slice ad (bI (o.ay++o.index)).length c) (bI (o.ay++o.index)).length (aO (bI (o.ay++o.index)))/\Bs=[D,[(a,xu o.used o.size o.root (.slice je o.ay.length cP) (.slice dP o.index.length cI) r o.clean)],DP,DX]:=by
 have hS:abM (DP++DX) [(.slice je o.ay.length cP,o.ay),(.slice dP o.index.length cI,o.index)]:=by
  refine ⟨fun x hx => ?_,fun x hx => ?_,by simp,by simp [oG];omega⟩
  ·rcases List.mem_cons.1 hx with rfl | hx
   ·exact Up.rd.sub fun y hy=>List.mem_append_left _ hy
   ·obtain rfl:=List.mem_singleton.1 hx
    exact Ak.rd.sub fun y hy=>List.mem_append_right _ hy
  ·rcases List.mem_cons.1 hx with rfl | hx
   ·exact ⟨_,_,rfl⟩
   ·obtain rfl:=List.mem_singleton.1 hx
    exact ⟨_,_,rfl⟩
 refine st Tryz.func74 fun w0 => ?_
 refine qC [[(a,xu o.used o.size o.root (.slice je o.ay.length cP) (.slice dP o.index.length cI) r o.clean)]] [0,4,8,12,16,20,24,28,46,33,39,42] ?_
 refine gm ?_;intro b14
 refine gc (Lc _ (DP++DX) _ 2 [(.slice je o.ay.length cP,o.ay),(.slice dP o.index.length cI,o.index)] rfl (aw rfl (by simp [Value.oneCell']) (by simp [maxLen]) _) hS) ?_
 rintro u _ ⟨D0,E7,rfl⟩
 refine gs ?_
 have jo:([(Value.slice je o.ay.length cP,o.ay),(Value.slice dP o.index.length cI,o.index)].flatMap (·.2))=o.ay++o.index:=by simp
 obtain ⟨L,hL⟩:∃L,L=o.ay++o.index:=⟨_,rfl⟩
 have hLl:L.length<=200:=by rw [hL,List.length_append];omega
 rw [oG,jo,<-hL] at E7
 rw [<-hL]
 have uX:=E7.rd
 obtain ⟨Ry,c0,rfl⟩:=uX.slice
 refine gl [0,15,16] (fun ((i,fJ,c3,_):Nat×Option Addr×Nat×Chunk)=>[(17,.int .i64 i),(3,.slice fJ (bI (L.take i)).length c3)]) (fun (_,_,_,D)=>[D]) (fun (i,fJ,c3,D)=>i<=L.length/\az D 85 9 (.slice fJ (bI (L.take i)).length c3) (bI (L.take i)).length (aO (bI (L.take i)))) (fun (i,_)=>L.length - i) (0,none,0,[]) ⟨by omega,az.nil _ _⟩ ?_
 rintro ⟨i,fJ,c3,D⟩ ⟨hi,hD⟩
 refine gi ?_ ?_ <;> intro bh
 ·have bo:i<L.length:=by omega
  obtain ⟨g,off,rfl⟩:=uX.addr oZ
  have hs:=ar (lay:=Pt.lay) (s:=9) (fun _=>rfl) L i L[i] (by simp)
  have jw:=Ha bo
  refine ga ?_;intro b5
  refine go ?_
  rw [Zz]
  refine gi ?_ ?_ <;> intro hz
  ·have hnz:L[i]≠ah:=by simpa using hz
   rw [if_neg hnz] at jw
   have ae8:(bI (L.take i)).length<=200:=by have:=List.length_filter_le (fun x=>decide (x≠ah)) (L.take i);rw [List.length_take] at this;unfold bI;omega
   refine gm ?_;intro b26
   refine gp ?_;intro pF c4 D4 hD4
   have hl4:(bI (L.take (i+1))).length=(bI (L.take i)).length+1:=by rw [jw];simp
   refine gn ?_
   exact ⟨(i+1,pF,c4,D4),⟨by omega,by rw [hl4,jw];simpa [aO,Pt.lay] using hD4⟩,by simp only;omega,by simp only [hl4];exact aq,_,by simp only [hl4];exact aa⟩
  ·have hnz:L[i]=ah:=by simpa using hz
   rw [if_pos hnz,List.append_nil] at jw
   refine gn ?_
   exact ⟨(i+1,fJ,c3,D),⟨by omega,by rw [jw];exact hD⟩,by simp only;omega,by simp only [jw];exact aq,_,aa⟩
 ·obtain rfl:i=L.length:=by omega
  rw [List.take_length] at hD ⊢
  refine gz ?_
  exact fin ⟨fJ,c3,D,rfl,hD,rfl⟩ aa
end Go.Proofs.YtcfioaeamfappaaGreatDoor
namespace Go.Sl
theorem wv {R:Rk}(h:R.on)(l:List Ev):(R.run l).off=false:=(h.run l).2
end Go.Sl
namespace Go.Proofs.YtcfioaeamfappaaGreatDoor
open Go.Sl
set_option maxRecDepth 10000
set_option maxHeartbeats 4000000
section
variable (T:TypeId)(fr:Nat×Nat)(p:Nat)(qs:List Nat)(t pool:Nat)(tp:Tp)(pr:Bool)(n:Nat)(ls:List (Option Lv))(no:Nat)(V:Chunk)(hV:jd t pool tp pr n ls no V)
include hV
theorem Ur:Ct 107 [ptr t] [V] fun u Bs=>u = .int .u64 pool/\Bs=[V]:=by
 obtain ⟨m,M,fU,cT,DT,dP,cI,DI,jS,cL,DL,ov,cl,Dl,vD,DD,L,hT,hI,wU,hl,hM,hL,rfl⟩:=hV
 refine st Tryz.func107 fun w0 => ?_
 refine gs ?_
 refine gz ?_
 exact fin ⟨rfl,rfl⟩ aa
variable (ok:dE tp pr n ls.length)(dx:n<=2048)(hall:∀x∈ls,x≠none)(R:Rk)(C:Chunk)(hC:br p qs R C)(ho:dI qs R n ls)(bW:R.on)
variable (s:Nat)(vA:Value)(ra rd txg note:Nat)
include ok hall hC ho bW
theorem Ek (x:Pt)(hx:fy x=0)(Fc:x.Ok)(dS:Nat)(x6:pool<18446744073709551616)(Qd:dS<18446744073709551616)(Az:txg+1<=281474976710656)(hxb:x.bj<=txg+1)(hw:R.ws.length+80<=900000000000) :
  Ct 44 [ptr s,x.agg,.int .u64 dS] [[(s,bS t vA ra rd txg note)],gK T fr,C,V] fun u Bs=>u = .int .i64 0/\∃C',br p qs ((R.run (oA n ls ⟨pool,txg+1,dS,x⟩)).run (iF ls)) C'/\Bs=[[(s,bS t vA ra rd (txg+1) dS)],gK T fr,C',V]:=by
 have tt:=Ur t pool tp pr n ls no V hV
 have IE:=IG T fr p qs t pool tp pr n ls no V hV ok R C hC ho hall ⟨pool,txg+1,dS,x⟩ (if_pos ⟨by simp only;omega,by simp only;omega,hx,hxb⟩) ⟨x6,by simp only;omega,Qd,Fc⟩ rfl oZ
 rw [wv bW] at IE
 have jo:=fun C' bA=>pQ (p:=p) (qs:=qs) (t:=t) (hV:=hV) (ok:=ok) (R:=R.run (oA n ls ⟨pool,txg+1,dS,x⟩)) (C:=C') (hC:=bA) (ho:=ho.run _) (hall:=hall)
 rw [wv (bW.run _)] at jo
 have nF:IntKind.u64.wrap ((txg:Int)+1)=((txg+1:Nat):Int):=by rw [IntWalk.u64_in _ oZ];omega
 refine st Tryz.func44 fun w0 => ?_
 refine ga ?_;intro b4
 refine gdo (aA.cons (0,0) (aA.cons (1,0) (aA.cons (2,0) (aA.cons (3,0) (aA.cons (5,0) (aA.cons (6,0) (aA.cons (7,0) (aA.cons (8,0) (aA.cons (9,0) (aA.cons (10,0) (aA.cons (11,0) (aA.fork 4 (aA.yP [(12,0),(13,1),(14,3)]) 13 (aA.yP [(4,1),(12,0),(14,3)]))))))))))))) ?_
 refine gk ?_ ?_
 case' refine_2 =>
  refine ga ?_;intro b7
  refine gc tt ?_
  rintro _ _ ⟨rfl,rfl⟩
  refine go ?_
 case' refine_1 =>
  refine gc tt ?_
  rintro _ _ ⟨rfl,rfl⟩
  refine ga ?_;intro b7
  refine go ?_
 all_goals
  refine qC [[(s,bS t vA ra rd txg note)],[(b7,av (⟨pool,txg+1,dS,x⟩:Ub).lay 117)]] [0,4,8,12,16,23,26] ?_
  refine gc IE ?_
  rintro _ _ ⟨C1,rfl,qZ,rfl⟩
  refine gc (jo C1 qZ) ?_
  rintro _ _ ⟨C2,rfl,BY,rfl⟩
  refine gz ?_
  exact fin ⟨rfl,C2,BY,rfl⟩ aa
end
end Go.Proofs.YtcfioaeamfappaaGreatDoor
namespace Go.Sl
def aM (m:Nat)(x:Pt):Nat:=(x.at_ / m).toNat
def bq (g:Nat)(a:Rm)(m:Nat)(fs:List Pt):Rm:=fs.foldl (fun a x=>a.free g (aM m x)) a
theorem iY (g:Nat)(a:Rm)(m:Nat)(fs:List Pt)(x:Pt):bq g a m (fs++[x])=(bq g a m fs).free g (aM m x):=by simp [bq]
def bc (d:List (Int×List Pt)):List Pt:=d.flatMap (·.2)
structure wx (m:Nat)(a:Rm)(od:List (Int×List Pt)):Prop where
 top:∀x∈bc od,x.top=0
 at_:∀x∈bc od,x.at_=(aM m x:Nat)*(m:Int)
 hd:∀x∈bc od,aM m x∈a.D
 wt:∀x∈bc od,aM m x∉a.W
 inj:∀x∈bc od,∀y∈bc od,aM m x=aM m y->x=y
structure j9 (s m:Int)(mn:Nat)(g:Nat)(a:Rm)(fs:List Pt):Prop where
 ok:(bq g a mn fs).Ok s m
 d:(bq g a mn fs).D=a.D
 w:∀k∈(bq g a mn fs).W,k∈a.W\/∃x∈fs,aM mn x=k
theorem j9.nil {s m:Int}{mn g:Nat}{a:Rm}(ha:a.Ok s m):j9 s m mn g a []:=⟨ha,rfl,fun _ h=>.inl h⟩
theorem j9.snoc {s m:Int}{mn g:Nat}{a:Rm}{fs:List Pt}{x:Pt}{od:List (Int×List Pt)}(h:j9 s m mn g a fs)(ho:wx mn a od)(hf:∀y∈fs,y∈bc od)(hx:x∈bc od)(hn:x∉fs) :
  aM mn x∈(bq g a mn fs).D/\aM mn x∉(bq g a mn fs).W/\j9 s m mn g a (fs++[x]):=by
 have h1:aM mn x∈(bq g a mn fs).D:=by rw [h.d];exact ho.hd x hx
 have h2:aM mn x∉(bq g a mn fs).W:=fun hc=>by
  rcases h.w _ hc with hc | ⟨y,hy,e⟩
  ·exact ho.wt x hx hc
  ·exact hn (ho.inj y (hf y hy) x hx e ▸ hy)
 refine ⟨h1,h2, ?_, ?_,fun k hk => ?_⟩
 ·rw [iY];exact Rm.TO h.ok g h1 h2
 ·rw [iY];exact h.d
 ·rw [iY] at hk
  have:=(Ab (bq g a mn fs).fB g (aM mn x)).mem_iff.1 hk
  rcases List.mem_append.1 this with hk | hk
  ·rcases h.w k hk with h | ⟨y,hy,e⟩
   ·exact .inl h
   ·exact .inr ⟨y,List.mem_append_left _ hy,e⟩
  ·exact .inr ⟨x,by simp,(List.mem_singleton.1 hk).symm⟩
theorem wy {d:List (Int×List Pt)}{q:Int}{l:List Pt}(h:aH d q=some l):∀x∈l,x∈bc d:=fun x hx=>List.mem_flatMap.2 ⟨(q,l),aI h,hx⟩
theorem lG {β:Type}:∀ {M:List (Int×β)} {e:Int×β},(M.map (·.1)).Nodup->e∈M->aH M e.1=some e.2
 | x :: r,e,hn,h=>by
  rw [List.map_cons,List.nodup_cons] at hn
  rcases List.mem_cons.1 h with rfl | h
  ·simp [aH]
  ·have:x.1≠e.1:=fun c=>hn.1 (by rw [c];exact List.mem_map_of_mem h)
   have h2:=lG hn.2 h
   unfold aH at h2 ⊢
   rw [List.find?_cons_of_neg (by simpa using this)]
   exact h2
structure KU {α:Type}(_lay:α->List Value)(_u:α):Prop
section
variable {α:Type}[DecidableEq α]{lay:α->List Value}{u:α}{X:Cx}{f:Fx}{ops:List Oper}{k:Kt}{Ms Ls Rs:List Chunk}{κ:Nat}{r':aA}{e:Env}{x y z:Operand}{r d:Nat}{t kt et:TypeId}{L:List α}{C:Chunk}
theorem WD.aet (_:KU lay u)(hκ:calm κ=true)(hx:ev e x=some (.map (some r)))(hy:ev e y=some (.agg (lay u).toArray))(hT:X.T.Ok X.P)(ht:mpA X.T t=some (kt,et))(hz:zv X.T et=some (.bool false))(hK:qW X.T X.P kt lay)(hC:BN lay r L C)(hm:C∈zc κ Ms Ls)
  (g:WO X f ops k Ms r' ((d,.bool (decide (u∈L))) :: e) Ls):WD X f ops k Ms κ (some d) (.lookup t x y false) r' e Ls:=.lkS hκ hx hy hT ht hz hK hC hm g
theorem WD.ZA (_:KU lay u)(hκ:dD κ=true)(hx:ev e x=some (.map (some r)))(hy:ev e y=some (.agg (lay u).toArray))(hz:ev e z=some (.bool true))(hT:X.T.Ok X.P)(ht:mpA X.T t=some (kt,et))(hK:qW X.T X.P kt lay)(hC:BN lay r L C)(hp:Ls.Perm (C :: Rs))
  (hM:cJ κ Ms Rs) (g:∀C',BN lay r (if u∈L then L else L++[u]) C'->WO X f ops k Ms r' e (C' :: Rs)):WD X f ops k Ms κ none (.mapUpdate t x y z) r' e Ls:=.aaU hκ hx hy hz hT ht hK hC hp hM g
end
end Go.Sl
namespace Go.Proofs.YtcfioaeamfappaaGreatDoor
open Go.Sl
set_option maxRecDepth 10000
set_option maxHeartbeats 4000000
theorem glu {G H:Prop}{α:Type}(lay:α->List Value)(u:α)(k:H)(h:KU lay u->gE H->G:=by
 intro ku kk;refine go ?_;refine WO.dec rfl ?_
 apply WD.aet ku;exact rfl;exact rfl;exact rfl;exact aB;exact rfl;exact rfl;assumption;assumption;exact mem;exact kk.out):G:=h ⟨⟩ ⟨k⟩
theorem guu {G H:Prop}{α:Type}(lay:α->List Value)(u:α)(k:H)(h:KU lay u->gE H->G:=by
 intro ku kk;refine go ?_;refine WO.dec rfl ?_
 apply WD.ZA ku;exact rfl;exact rfl;exact rfl;exact rfl;exact aB;exact rfl;assumption;assumption;exact pick;exact keeps;exact kk.out):G:=h ⟨⟩ ⟨k⟩
theorem WG:qW JE Tryz.prog 85 Pt.lay where
 eq:=fun x y=>by
  have:XA JE 8 85 (Pt.lay x) (Pt.lay y)=some (x.top==y.top&&(x.at_==y.at_&&(x.bytes==y.bytes&&((x.bj:Int)==y.bj&&(x.kind==y.kind&&((x.a:Int)==y.a&&((x.b:Int)==y.b&&((x.c:Int)==y.c&&(x.d:Int)==y.d)))))))):=rfl
  rw [this]
  cases x;cases y
  congr 1
  rw [Bool.eq_iff_iff]
  simp
  omega
 nh:=by decide +kernel
 ag:=by decide +kernel
 st:=⟨_,rfl⟩
 sb:=fun x=>by simp [Pt.lay,Instr.sameBits]
section
variable (t pool:Nat)(tp:Tp)(pr:Bool)(n:Nat)(ls:List (Option Lv))(no:Nat)(V:Chunk)(hV:jd t pool tp pr n ls no V)(ok:dE tp pr n ls.length)(dx:n<=2048)
variable (s al:Nat)(ra rd txg note:Nat)
include hV ok dx
theorem ZB (m:Nat)(hm:m=aN pr ls.length 1024)(a:Rm)(ha:a.Ok (bD pr ls.length n:Nat) m)(Al:Chunk)(hA:oN al ((bD pr ls.length n:Nat):Int) (m:Nat) a Al)(Az:txg<18446744073709551616)
  (r1 r2:Nat) (Ln:List (Int×Value)) (nd:List (Int×List Pt)) (CN VN:Chunk) (hN:Mp r2 .i64 Ln CN) (hNV:eT Pa Ln nd VN) (LS:∀e∈nd,e.2.length<=200)
  (Ld:List (Int×Value)) (od:List (Int×List Pt)) (CD VD:Chunk) (hD:Mp rd .i64 Ld CD) (hDV:eT Pa Ld od VD) (sQ:∀e∈od,e.2.length<=200) (ZC:wx m a od) :
  Ct 164 [ptr s,.map (some r1),.map (some r2)] [[(s,bS t (ptr al) ra rd txg note)],V,CN,VN,CD,VD,Al] fun u Bs=>u = .int .i64 0/\∃fs jI,fs.Nodup/\(∀x,x∈fs↔x∈bc od/\x∉bc nd)/\j9 (bD pr ls.length n:Nat) m m txg a fs/\oN al ((bD pr ls.length n:Nat):Int) (m:Nat) ((bq txg a m fs).sync txg) jI/\Bs=[[(s,bS t (ptr al) r1 r2 txg note)],V,CN,VN,CD,VD,jI]:=by
 have hky:=WG
 have hz:=iA pr ok.hw ⟨ok.hn.1,dx⟩
 have Y9:=sv pr ok.hw ok.hp
 rw [<-hm] at Y9
 have hnN:=hNV.keys
 have hnD:=hDV.keys
 have RP:(nd.map (·.1)).Nodup:=by rw [hnN];exact hN.nodup
 have hdn:(od.map (·.1)).Nodup:=by rw [hnD];exact hD.nodup
 refine st Tryz.func164 fun w0 => ?_
 refine uC .i64 ?_;intro r7 C7 h7
 refine gr ?_
 intro it DI hI
 refine gl [0,1,2,6,7,19] (fun (_:List Pt×List (Int×Value)×Chunk×Chunk)=>[]) (fun (_,_,M7,DI)=>[CN,DI,VN,M7]) (fun (K,rest,M7,DI)=>xZ r2 it .i64 Ln rest CN DI/\BN Pt.lay r7 K M7/\(∀x∈K,x∈bc nd)/\∀x∈bc nd,x∈K\/∃q∈rest.map (·.1),∃l,aH nd q=some l/\x∈l) (fun (_,rest,_)=>rest.length) ([],Ln,C7,DI) ⟨hI,BN.start h7,fun _ h=>(List.not_mem_nil h).elim,fun x hx=>.inr ?_⟩ ?_
 ·obtain ⟨e,he,yc⟩:=List.mem_flatMap.1 hx
  exact ⟨e.1,by rw [<-hnN];exact List.mem_map_of_mem he,e.2,lG RP he,yc⟩
 clear hI h7
 rintro ⟨K,rest,M7,DI⟩ ⟨hI,hK,hKn,Us⟩
 refine Nl ?_ ?_
 ·rintro rfl
  have abN:∀x,x∈K↔x∈bc nd:=fun x=>⟨hKn x,fun h=>(Us x h).resolve_right (by rintro ⟨q,hq, -⟩;cases hq)⟩
  clear hKn Us
  have hMp:=hI.mp
  clear hI
  refine gr ?_
  intro it2 xx hI
  refine gl [0,1,2,6,7,37] (fun (_:List Pt×List Pt×List (Int×Value)×Chunk×Chunk×Chunk)=>[]) (fun (_,_,_,M7,DI,Al)=>[CD,DI,VD,M7,Al]) (fun (K,fs,rest,M7,DI,Al)=>xZ rd it2 .i64 Ld rest CD DI/\BN Pt.lay r7 K M7/\(∀x,x∈K↔x∈bc nd\/x∈fs)/\fs.Nodup/\(∀x∈fs,x∈bc od/\x∉bc nd)/\j9 (bD pr ls.length n:Nat) m m txg a fs/\oN al ((bD pr ls.length n:Nat):Int) (m:Nat) (bq txg a m fs) Al/\∀x∈bc od,x∈K\/∃q∈rest.map (·.1),∃l,aH od q=some l/\x∈l) (fun (_,_,rest,_)=>rest.length) (K,[],Ld,M7,xx,Al) ⟨hI,‹BN Pt.lay r7 K M7›,fun x=>by rw [abN];simp,List.nodup_nil,fun _ h=>(List.not_mem_nil h).elim,.nil ha,hA,fun x hx=>.inr ?_⟩ ?_
  ·obtain ⟨e,he,yc⟩:=List.mem_flatMap.1 hx
   exact ⟨e.1,by rw [<-hnD];exact List.mem_map_of_mem he,e.2,lG hdn he,yc⟩
  clear hI hA ha abN
  rintro ⟨K,fs,rest,M7,DI3,Al⟩ ⟨hI,hK,Ut,zl,Mb,zP,hA,Us⟩
  refine Nl ?_ ?_
  ·rintro rfl
   refine gc (TQ al _ m oZ oZ _ zP.ok Al hA txg Az) ?_
   rintro _ _ ⟨jI,dX,rfl⟩
   refine gz ?_
   exact fin ⟨rfl,fs,jI,zl,fun x=>⟨Mb x,fun ⟨h1,h2⟩=>by
    rcases Us x h1 with h | ⟨q,hq, -⟩
    ·exact ((Ut x).1 h).resolve_left h2
    ·cases hq⟩,zP,dX,rfl⟩ aa
  ·rintro X q v Y GB rfl gM qB hE
   rcases hDV.look q with ⟨h1, -⟩ | ⟨v',l,V1,D,V2,h1,h2,rfl,Bg, -, -⟩
   ·rw [gM] at h1;cases h1
   ·obtain rfl:v=v':=by rw [gM] at h1;exact Option.some.inj h1
    have Bg:az D 85 9 v l.length (aO l):=Bg
    have jq:=Bg.rd
    have iK:l.length<=200:=sQ _ (aI h2)
    obtain ⟨ov,cl,rfl⟩:=jq.slice
    refine Nn ?_
    refine gs ?_
    refine gl [0,1,2,6,7,37,42,43] (fun ((i,_):Nat×List Pt×List Pt×Chunk×Chunk)=>[(44,.int .i64 i)]) (fun (_,_,_,M7,Al)=>[M7,Al]) (fun (i,K2,fs,M7,Al)=>i<=l.length/\BN Pt.lay r7 K2 M7/\(∀x,x∈K2↔x∈bc nd\/x∈fs)/\fs.Nodup/\(∀x∈fs,x∈bc od/\x∉bc nd)/\j9 (bD pr ls.length n:Nat) m m txg a fs/\oN al ((bD pr ls.length n:Nat):Int) (m:Nat) (bq txg a m fs) Al/\(∀x∈K,x∈K2)/\∀x∈l.take i,x∈K2) (fun (i,_)=>l.length - i) (0,K,fs,M7,Al) ⟨by omega,hK,Ut,zl,Mb,zP,hA,fun _ h=>h,fun x h=>by rw [List.take_zero] at h;cases h⟩ ?_
    clear hK Ut zl Mb zP hA
    rintro ⟨i,K2,fs,M7,Al⟩ ⟨hi,ZD,Ut,zl,Mb,zP,hA,Qe,jc⟩
    refine gi ?_ ?_ <;> intro bh
    ·have bo:i<l.length:=by omega
     obtain ⟨g,off,rfl⟩:=jq.addr oZ
     have hs:=ar (lay:=Pt.lay) (s:=9) (fun _=>rfl) l i l[i] (by simp)
     have Fc:l[i]∈bc od:=wy h2 _ (List.getElem_mem bo)
     obtain ⟨x,hx⟩:∃x,x=l[i]:=⟨_,rfl⟩
     rw [<-hx] at hs Fc
     have mj:=IH s t pool tp pr n ls no V hV ok dx (ptr al) ra rd txg note x (ZC.top x Fc)
     rw [<-hm,ZC.at_ x Fc] at mj
     refine ga ?_;intro b15
     refine glu Pt.lay x ?_
     refine gi ?_ ?_ <;> intro jC
     ·have jC:x∈K2:=by simpa using jC
      refine gn ?_
      refine ⟨(i+1,K2,fs,M7,Al),⟨by omega,ZD,Ut,zl,Mb,zP,hA,Qe,fun y hy => ?_⟩,by simp only;omega,aq,_,aa⟩
      rw [aG l bo] at hy
      rcases List.mem_append.1 hy with hy | hy
      ·exact jc y hy
      ·rw [List.mem_singleton.1 hy,<-hx];exact jC
     ·have jC:x∉K2:=by simpa using jC
      have hxf:x∉fs:=fun h=>jC ((Ut x).2 (.inr h))
      have hxn:x∉bc nd:=fun h=>jC ((Ut x).2 (.inl h))
      obtain ⟨g1,g2,g3⟩:=zP.snoc ZC (fun y hy=>(Mb y hy).1) Fc hxf
      have oQ:=TP al _ m oZ oZ _ zP.ok Al hA txg _ g1 g2
      refine guu Pt.lay x ?_
      rw [if_neg jC]
      intro M8 hK3
      refine qC [[(s,bS t (ptr al) ra rd txg note)],[(b15,av x.lay 85)]] [0,4,8,12,16,20,28,32,36,40,25,47,50] ?_
      refine gc mj ?_
      rintro _ _ ⟨rfl,rfl⟩
      refine gc oQ ?_
      rintro _ _ ⟨rfl,jI,dX,rfl⟩
      refine gn ?_
      refine ⟨(i+1,K2++[x],fs++[x],M8,jI),⟨by omega,hK3,fun y => ?_, ?_,fun y hy => ?_,g3,by rw [iY];exact dX,fun y hy=>List.mem_append_left _ (Qe y hy),fun y hy => ?_⟩,by simp only;omega,aq,_,aa⟩
      ·rw [List.mem_append,List.mem_append,Ut y,or_assoc]
      ·rw [List.nodup_append]
       exact ⟨zl,by simp,fun y hy z hz e=>by rw [List.mem_singleton.1 hz] at e;exact hxf (e ▸ hy)⟩
      ·rcases List.mem_append.1 hy with hy | hy
       ·exact Mb y hy
       ·rw [List.mem_singleton.1 hy];exact ⟨Fc,hxn⟩
      ·rw [aG l bo] at hy
       rcases List.mem_append.1 hy with hy | hy
       ·exact List.mem_append_left _ (jc y hy)
       ·rw [List.mem_singleton.1 hy,<-hx];simp
    ·obtain rfl:i=l.length:=by omega
     rw [List.take_length] at jc
     refine gn ?_
     refine ⟨(K2,fs,X++Y,M7,GB,Al),⟨qB,ZD,Ut,zl,Mb,zP,hA,fun x hx => ?_⟩,by simp only [List.length_append,List.length_cons];omega,aq,_,aa⟩
     rcases Us x hx with h | ⟨q',mZ,l',lT,Fe⟩
     ·exact .inl (Qe x h)
     ·rw [List.map_append,List.map_cons,List.mem_append,List.mem_cons] at mZ
      rcases mZ with mZ | rfl | mZ
      ·exact .inr ⟨q',by rw [List.map_append];exact List.mem_append_left _ mZ,l',lT,Fe⟩
      ·rw [h2] at lT;cases lT;exact .inl (jc x Fe)
      ·exact .inr ⟨q',by rw [List.map_append];exact List.mem_append_right _ mZ,l',lT,Fe⟩
 ·rintro X q v Y GB rfl gM qB hE
  rcases hNV.look q with ⟨h1, -⟩ | ⟨v',l,V1,D,V2,h1,h2,rfl,Bg, -, -⟩
  ·rw [gM] at h1;cases h1
  ·obtain rfl:v=v':=by rw [gM] at h1;exact Option.some.inj h1
   have Bg:az D 85 9 v l.length (aO l):=Bg
   have jq:=Bg.rd
   have iK:l.length<=200:=LS _ (aI h2)
   obtain ⟨ov,cl,rfl⟩:=jq.slice
   refine Nn ?_
   refine gs ?_
   refine gl [0,1,2,6,7,19,24,25] (fun ((i,_):Nat×List Pt×Chunk)=>[(26,.int .i64 i)]) (fun (_,_,M7)=>[M7]) (fun (i,K2,M7)=>i<=l.length/\BN Pt.lay r7 K2 M7/\(∀x∈K2,x∈bc nd)/\(∀x∈K,x∈K2)/\∀x∈l.take i,x∈K2) (fun (i,_)=>l.length - i) (0,K,M7) ⟨by omega,hK,hKn,fun _ h=>h,fun x h=>by rw [List.take_zero] at h;cases h⟩ ?_
   clear hK
   rintro ⟨i,K2,M7⟩ ⟨hi,ZD,ZE,Qe,jc⟩
   refine gi ?_ ?_ <;> intro bh
   ·have bo:i<l.length:=by omega
    obtain ⟨g,off,rfl⟩:=jq.addr oZ
    have hs:=ar (lay:=Pt.lay) (s:=9) (fun _=>rfl) l i l[i] (by simp)
    refine ga ?_;intro b11
    refine guu Pt.lay l[i] ?_
    intro M8 hK3
    refine gn ?_
    refine ⟨(i+1,_,M8),⟨by omega,hK3,fun x hx => ?_,fun x hx => ?_,fun x hx => ?_⟩,by simp only;omega,aq,_,aa⟩
    ·split at hx
     ·exact ZE x hx
     ·rcases List.mem_append.1 hx with hx | hx
      ·exact ZE x hx
      ·rw [List.mem_singleton.1 hx];exact wy h2 _ (List.getElem_mem bo)
    ·split
     ·exact Qe x hx
     ·exact List.mem_append_left _ (Qe x hx)
    ·rw [aG l bo] at hx
     rcases List.mem_append.1 hx with hx | hx
     ·split
      ·exact jc x hx
      ·exact List.mem_append_left _ (jc x hx)
     ·rw [List.mem_singleton.1 hx]
      split
      ·assumption
      ·simp
   ·obtain rfl:i=l.length:=by omega
    rw [List.take_length] at jc
    refine gn ?_
    refine ⟨(K2,X++Y,M7,GB),⟨qB,ZD,ZE,fun x hx => ?_⟩,by simp only [List.length_append,List.length_cons];omega,aq,_,aa⟩
    rcases Us x hx with h | ⟨q',mZ,l',lT,Fe⟩
    ·exact .inl (Qe x h)
    ·rw [List.map_append,List.map_cons,List.mem_append,List.mem_cons] at mZ
     rcases mZ with mZ | rfl | mZ
     ·exact .inr ⟨q',by rw [List.map_append];exact List.mem_append_left _ mZ,l',lT,Fe⟩
     ·rw [h2] at lT;cases lT;exact .inl (jc x Fe)
     ·exact .inr ⟨q',by rw [List.map_append];exact List.mem_append_right _ mZ,l',lT,Fe⟩
end
end Go.Proofs.YtcfioaeamfappaaGreatDoor
namespace Go.Sl
def sB (pr:Bool)(ls:List (Option Lv))(n gt:Nat)(P:PS)(o:Ob)(P':PS)(o':Ob):Prop:=(o.clean=true/\P'=P/\o'=o)\/(o.clean=false/\wu pr ls n gt P o P' o')
def El (NL:Nat)(o:Ob):Nat:=if o.clean then 0 else xa NL+o.fresh.length
inductive lP (pr:Bool)(ls:List (Option Lv))(n gt:Nat)(all:List (Int×Ob))(P:PS):List Int->PS->List (Int×Ob)->List (Int×List Pt)->Prop
 | nil:lP pr ls n gt all P [] P [] []
 | snoc {ks:List Int} {P1 P2:PS} {os:List (Int×Ob)} {ds:List (Int×List Pt)} {k:Int} {o o':Ob}:lP pr ls n gt all P ks P1 os ds->aH all k=some o->sB pr ls n gt P1 o P2 o'->lP pr ls n gt all P (ks++[k]) P2 (os++[(k,o')]) (ds++[(k,bI (o'.ay++o'.index))])
structure PS.Ge (P P':PS):Prop where
 fB:P'.x.fB=P.x.fB
 sub:∀k∈P.x.D,k∈P'.x.D
theorem PS.Ge.rfl {P:PS}:P.Ge P:=⟨Eq.refl _,fun _ h=>h⟩
theorem PS.Ge.trans {P Q R:PS}(h:P.Ge Q)(k:Q.Ge R):P.Ge R:=⟨k.fB.trans h.fB,fun x hx=>k.sub x (h.sub x hx)⟩
section
variable {pr:Bool}{ls:List (Option Lv)}{n gt:Nat}{P P':PS}
theorem l4.ge {b:List UInt8}{pt:Pt}(h:l4 pr ls n gt P b P' pt):P.Ge P':=by
 rcases h with ⟨-,rfl, -⟩ | ⟨-,k, -, -, -,rfl⟩
 ·exact .rfl
 ·exact ⟨rfl,fun x hx=>List.mem_cons_of_mem _ hx⟩
theorem l4.rok {b:List UInt8}{pt:Pt}(h:l4 pr ls n gt P b P' pt)(hx:P.x.Ok (bD pr ls.length n:Nat) (aN pr ls.length 1024:Nat)):P'.x.Ok (bD pr ls.length n:Nat) (aN pr ls.length 1024:Nat):=by
 rcases h with ⟨-,rfl, -⟩ | ⟨-,k,hk,jz, -,rfl⟩
 ·exact hx
 ·exact ⟨fun j hj=>(List.mem_cons.1 hj).elim (fun e=>by rw [e];exact jz) (hx.dl j),hx.wn,fun j hj=>List.mem_cons_of_mem _ (hx.wd j hj)⟩
structure PS.Go (pr:Bool)(ls:List (Option Lv))(n:Nat)(P P':PS):Prop where
 ge:P.Ge P'
 ok:P.x.Ok (bD pr ls.length n:Nat) (aN pr ls.length 1024:Nat)->P'.x.Ok (bD pr ls.length n:Nat) (aN pr ls.length 1024:Nat)
theorem PS.Go.rfl:P.Go pr ls n P:=⟨.rfl,fun h=>h⟩
theorem PS.Go.trans {Q R:PS}(h:P.Go pr ls n Q)(k:Q.Go pr ls n R):P.Go pr ls n R:=⟨h.ge.trans k.ge,fun x=>k.ok (h.ok x)⟩
theorem l4.go {b:List UInt8}{pt:Pt}(h:l4 pr ls n gt P b P' pt):P.Go pr ls n P':=⟨h.ge,h.rok⟩
theorem jT.go {bs:List (List UInt8)}{ps:List Pt}(h:jT pr ls n gt P bs P' ps):P.Go pr ls n P':=by
 induction h with
 | nil=>exact .rfl
 | snoc _ h ih=>exact ih.trans h.go
theorem qd.go {l idx:List Pt}{root:Pt}(h:qd pr ls n gt P P' l idx root):P.Go pr ls n P':=by
 rcases h with ⟨-,rfl, -, -⟩ | ⟨-,level,P1,h1,h2, -⟩
 ·exact .rfl
 ·exact h1.go.trans h2.go
theorem Mh.go {fresh:List (Int×List UInt8)}{l0 l1:List Pt}{ks:List Int}(h:Mh pr ls n gt fresh P l0 ks P' l1):P.Go pr ls n P':=by
 induction h with
 | nil=>exact .rfl
 | snoc _ _ h ih=>exact ih.trans h.go
theorem wu.go {o o':Ob}(h:wu pr ls n gt P o P' o'):P.Go pr ls n P':=by
 obtain ⟨ks,P1,l1,idx,root, -, -,h1,h2, -⟩:=h
 exact h1.go.trans h2.go
theorem sB.go {o o':Ob}(h:sB pr ls n gt P o P' o'):P.Go pr ls n P':=by
 rcases h with ⟨-,rfl, -⟩ | ⟨-,h⟩
 ·exact .rfl
 ·exact h.go
theorem lP.go {all os:List (Int×Ob)}{ks:List Int}{ds:List (Int×List Pt)}(h:lP pr ls n gt all P ks P' os ds):P.Go pr ls n P':=by
 induction h with
 | nil=>exact .rfl
 | snoc _ _ h ih=>exact ih.trans h.go
theorem wx.go {m:Nat}{od:List (Int×List Pt)}(h:wx m P.x od)(g:P.Ge P'):wx m P'.x od :=
 ⟨h.top,h.at_,fun x hx=>g.sub _ (h.hd x hx),fun x hx=>by rw [show P'.x.W=P.x.W by unfold Rm.W;rw [g.fB]];exact h.wt x hx,h.inj⟩
theorem lP.keys {all os:List (Int×Ob)}{ks:List Int}{ds:List (Int×List Pt)}(h:lP pr ls n gt all P ks P' os ds):os.map (·.1)=ks/\ds.map (·.1)=ks:=by
 induction h with
 | nil=>exact ⟨rfl,rfl⟩
 | snoc _ _ _ ih=>rw [List.map_append,List.map_append,ih.1,ih.2];exact ⟨rfl,rfl⟩
end
section
variable {β:Type}
def sW (ks:List Int)(M:List (Int×β)):List (Int×β):=M.filter fun e => !ks.contains e.1
theorem Em (M:List (Int×β)):sW [] M=M:=by unfold sW;rw [List.filter_eq_self];intro e _;rfl
theorem yE (ks:List Int)(k:Int)(M:List (Int×β)):oB (sW ks M) k=sW (ks++[k]) M:=by
 unfold oB sW
 rw [List.filter_filter]
 apply List.filter_congr
 intro e _
 rw [Bool.eq_iff_iff]
 simp [and_comm]
theorem AA {ks:List Int}{k:Int}(h:k∉ks):∀(M:List (Int×β)),aH (sW ks M) k=aH M k
 | []=>rfl
 | e :: r=>by
  have ih:=AA h r
  unfold sW at *
  by_cases c:ks.contains e.1
  ·rw [List.filter_cons_of_neg (by simpa using c),ih]
   have:e.1≠k:=by rintro rfl;exact h (by simpa using c)
   unfold aH;rw [List.find?_cons_of_neg (by simpa using this)]
  ·rw [List.filter_cons_of_pos (by simpa using c)]
   unfold aH at *
   by_cases d:e.1=k
   ·rw [List.find?_cons_of_pos (by simpa using d),List.find?_cons_of_pos (by simpa using d)]
   ·rw [List.find?_cons_of_neg (by simpa using d),List.find?_cons_of_neg (by simpa using d)];exact ih
theorem mQ {q:Int}{x:β}:∀ {M:List (Int×β)},q∉M.map (·.1)->ec M q x=M++[(q,x)]
 | [],_=>rfl
 | (p,u) :: L,h=>by
  rw [List.map_cons,List.mem_cons,not_or] at h
  rw [ec,if_neg (fun e=>h.1 e.symm),mQ h.2];rfl
theorem jU {q:Int}{M:List (Int×β)}(h:q∉M.map (·.1)):aH M q=none:=by
 unfold aH
 rw [Option.map_eq_none_iff,List.find?_eq_none]
 intro e he
 simpa using fun c:e.1=q=>h (by rw [<-c];exact List.mem_map_of_mem he)
theorem kT {q k:Int}{x:β}:∀ {M:List (Int×β)},q∉M.map (·.1)->aH (M++[(q,x)]) k=if k=q then some x else aH M k
 | [],_=>by
  unfold aH
  by_cases c:k=q
  ·subst c;simp
  ·have:¬q=k:=fun h=>c h.symm
   simp [c,this]
 | e :: r,h=>by
  rw [List.map_cons,List.mem_cons,not_or] at h
  have ih:=kT (k:=k) (x:=x) h.2
  unfold aH at *
  rw [List.cons_append]
  by_cases d:e.1=k
  ·rw [List.find?_cons_of_pos (by simpa using d),List.find?_cons_of_pos (by simpa using d),if_neg (by rintro rfl;exact h.1 d.symm)]
  ·rw [List.find?_cons_of_neg (by simpa using d),List.find?_cons_of_neg (by simpa using d)];exact ih
def iZ:Nat->List β->List (Int×β)
 | _,[]=>[]
 | i,v :: r=>((i:Int),v) :: iZ (i+1) r
theorem kU:∀(i:Nat) (l:List β),(iZ i l).length=l.length
 | _,[]=>rfl
 | i,v :: r=>by simp [iZ,kU (i+1) r]
theorem mR:∀(i:Nat) (l:List β) (j:Nat) (h:j<(iZ i l).length),(iZ i l)[j]=(((i+j:Nat):Int),l[j]'(by rw [<-kU i l];exact h))
 | i,v :: r,0,_=>rfl
 | i,v :: r,j+1,h=>by
  have:=mR (i+1) r j (by simpa [iZ] using h)
  simp only [iZ,List.getElem_cons_succ]
  rw [this]
  congr 2;omega
theorem qg {i:Nat}{l:List β}:∀ {e:Int×β},e∈iZ i l->∃j,j<l.length/\e.1=((i+j:Nat):Int)/\l[j]? = some e.2:=by
 intro e he
 obtain ⟨j,hj,rfl⟩:=List.getElem_of_mem he
 have zb:=hj
 rw [kU] at zb
 rw [mR]
 exact ⟨j,zb,rfl,by simp [zb]⟩
theorem oH:∀(i:Nat) (l:List β),((iZ i l).map (·.1)).Nodup
 | _,[]=>List.nodup_nil
 | i,v :: r=>by
  simp only [iZ,List.map_cons,List.nodup_cons]
  refine ⟨fun h => ?_,oH (i+1) r⟩
  obtain ⟨e,he,e2⟩:=List.mem_map.1 h
  obtain ⟨j, -,e3, -⟩:=qg he
  omega
end
theorem ZF {L:List (Int×Value)}{q:Int}{v:Value}:gJ L q v=ec L q v:=by
 induction L with
 | nil=>rfl
 | cons e r ih=>obtain ⟨p,u⟩:=e;simp only [gJ,ec,ih]
theorem Qf {L:List (Int×Value)}{q:Int}{v:Value}(h:q∉L.map (·.1)):gJ L q v=L++[(q,v)]:=by rw [ZF,mQ h]
def slotsOf (os:List (Int×Ob)):List eW:=(List.range 112).map fun (i:Nat)=>match aH os ((i+1:Nat):Int) with
 | some o=>o.slot
 | none=>eu
theorem eI (os:List (Int×Ob)):(slotsOf os).length=112:=by simp [slotsOf]
theorem sC:slotsOf []=List.replicate 112 eu:=by
 unfold slotsOf
 apply List.ext_getElem (by simp)
 intro i h1 h2
 rw [List.getElem_map,List.getElem_replicate];rfl
theorem AB {os:List (Int×Ob)}{k:Nat}{o:Ob}(hk:k<112)(h:((k+1:Nat):Int)∉os.map (·.1)):slotsOf (os++[(((k+1:Nat):Int),o)])=(slotsOf os).set k o.slot:=by
 apply List.ext_getElem (by simp [slotsOf])
 intro i h1 h2
 rw [List.getElem_set]
 unfold slotsOf
 simp only [List.getElem_map,List.getElem_range,kT h]
 by_cases c:k=i
 ·subst c;simp
 ·rw [if_neg c,if_neg oZ]
theorem sD {os:List (Int×Ob)}{x:eW}(h:x∈slotsOf os):x=eu\/∃k o,aH os k=some o/\x=o.slot:=by
 obtain ⟨i, -,rfl⟩:=List.mem_map.1 h
 cases hl:aH os ((i+1:Nat):Int) with
 | none=>exact .inl (by simp only)
 | some o=>exact .inr ⟨_,o,hl,by simp only⟩
def iQ (b:List UInt8):Ob:=⟨false,0,ah,[],[],iZ 0 (eS b),false⟩
theorem yF {b:List UInt8}:∀x∈eS b,x.length<=1024:=fun x hx=>by
 obtain ⟨g,hg,rfl⟩:=List.mem_map.1 hx
 have h1:=mO g
 obtain ⟨i,hi,rfl⟩:=List.getElem_of_mem hg
 rw [lu] at *
 simp only [List.length_take] at h1
 omega
end Go.Sl
namespace Go.Proofs.YtcfioaeamfappaaGreatDoor
open Go.Sl
theorem Qg:∀ {V:Chunk} {vs:List Value} {xs:List (List UInt8)} (i:Nat),wZ 5 1 ak V vs xs->eT lE (iZ i vs) (iZ i xs) V
 | _,[],[],_,h=>h
 | _,_ :: _,_ :: _,i,⟨C,D',e,hC,h⟩=>⟨rfl,C,D',hC,Qg (i+1) h,e⟩
 | _,[],_ :: _,_,h=>h.elim
 | _,_ :: _,[],_,h=>h.elim
end Go.Proofs.YtcfioaeamfappaaGreatDoor
namespace Go.Sl
structure Le (NL:Nat)(o:Ob):Prop where
 fk:∀e∈o.fresh,0<=e.1/\e.1<NL/\e.2.length<=1024
 fl:o.fresh.length<=64
 pl:o.ay.length<=NL
 po:∀x∈o.ay,fy x=0/\x.Ok
 il:o.index.length<=5
 rt:fy o.root=0/\o.root.Ok
theorem kV (l:List Pt):(bI l).length<=l.length:=List.length_filter_le _ _
theorem Qh (l:List eW):∀u∈l.flatMap eW.lay,u.oneCell'=true:=fun u hu=>by
 obtain ⟨x, -,hx⟩:=List.mem_flatMap.1 hu
 simp only [eW.lay,List.mem_cons,List.not_mem_nil,or_false] at hx
 rcases hx with rfl | rfl | rfl | rfl | rfl | rfl | rfl | rfl | rfl | rfl | rfl <;> rfl
theorem Uu {ls:List (Option Lv)}(h:ls.length<=5):(iF ls).length<=5:=by
 have:=cR (f:=ni ls) (c:=1) (fun k=>by unfold ni;split <;> simp) ls.length
 unfold iF;omega
section
variable {pr:Bool}{ls:List (Option Lv)}{n gt NL:Nat}{P P':PS}(hz:bD pr ls.length n<=10240)(ib:1<=gt/\gt<=281474976710656)
theorem l4.bj {b:List UInt8}{pt:Pt}(h:l4 pr ls n gt P b P' pt):pt.bj<=gt:=by
 rcases h with ⟨-, -,rfl⟩ | ⟨-,k, -, -,rfl, -⟩
 ·exact Nat.zero_le _
 ·exact Nat.le_refl _
include hz ib
theorem Mh.RQ {fresh:List (Int×List UInt8)}{l0 l1:List Pt}{ks:List Int}(hf:∀e∈fresh,0<=e.1/\e.1<NL/\e.2.length<=1024)(h0:l0.length<=NL)(h0o:∀x∈l0,fy x=0/\x.Ok)(h:Mh pr ls n gt fresh P l0 ks P' l1):l1.length<=NL/\∀x∈l1,fy x=0/\x.Ok:=by
 induction h with
 | nil=>exact ⟨h0,h0o⟩
 | snoc _ hl hp ih =>
  have hk:=hf _ (aI hl)
  refine ⟨by rw [List.length_set,Ei];simp only at hk;omega,fun x hx => ?_⟩
  rcases List.mem_or_eq_of_mem_set hx with hx | rfl
  ·rcases List.mem_append.1 hx with hx | hx
   ·exact ih.2 x hx
   ·rw [List.eq_of_mem_replicate hx];exact ⟨by simp [fy],dw⟩
  ·exact hp.pok hz hk.2.2 ib
theorem qd.RQ {l idx:List Pt}{root:Pt}(hl:l.length<=64)(h:qd pr ls n gt P P' l idx root):idx.length<=5/\(fy root=0/\root.Ok)/\root.bj<=gt:=by
 rcases h with ⟨-, -,rfl,rfl⟩ | ⟨-,level,P1,h1,h2,rfl⟩
 ·exact ⟨by simp,⟨by simp [fy],dw⟩,Nat.zero_le _⟩
 ·have h3:=h1.len
  rw [rL] at h3
  have h4:cY l.length 16<=4:=by unfold cY;omega
  refine ⟨by simp;omega,h2.pok hz ?_ ib,h2.bj⟩
  have:=mO (fR level)
  rw [jm] at this
  omega
theorem wu.RQ {o o':Ob}(hN:NL<=64)(ho:Le NL o)(h:wu pr ls n gt P o P' o'):o'.ay.length<=NL/\(∀x∈o'.ay,fy x=0/\x.Ok)/\o'.index.length<=5/\(fy o'.root=0/\o'.root.Ok)/\o'.used=o.used/\o'.size=o.size/\o'.root.bj<=gt:=by
 obtain ⟨ks,P1,l1,idx,root, -, -,h1,h2,rfl⟩:=h
 have h3:=h1.RQ hz ib ho.fk ho.pl ho.po
 have h4:=h2.RQ hz ib oZ
 exact ⟨h3.1,h3.2,h4.1,h4.2.1,rfl,rfl,h4.2.2⟩
theorem sB.RQ {o o':Ob}(hN:NL<=64)(ho:Le NL o)(h:sB pr ls n gt P o P' o'):o'.ay.length<=NL/\(∀x∈o'.ay,fy x=0/\x.Ok)/\o'.index.length<=5/\(fy o'.root=0/\o'.root.Ok)/\o'.used=o.used/\o'.size=o.size:=by
 rcases h with ⟨-, -,rfl⟩ | ⟨-,h⟩
 ·exact ⟨ho.pl,ho.po,ho.il,ho.rt,rfl,rfl⟩
 ·obtain ⟨h1,h2,h3,h4,h5,h6, -⟩:=h.RQ hz ib hN ho
  exact ⟨h1,h2,h3,h4,h5,h6⟩
end
section
variable {X:Cx}{f:Fx}{ops:List Oper}{k:Kt}{Ms Ls Rs:List Chunk}{κ:Nat}{r':aA}{e:Env}
theorem WD.Uv {α:Type}{lay:α->List Value}{y0:α}{xs:List α}{vs:List Value}{b i j s:Nat}{t T:TypeId}{x y:Operand}(hl:EP lay y0 xs i s)(hκ:dD κ=true)(hx:ev e x=some (.pointer (some ⟨b,j,none⟩)))(hy:ev e y=some (.agg vs.toArray))(hv:vs=lay y0)(hvl:vs.length=s)(h1:vs.all (·.oneCell')=true)(hT:X.T.Ok X.P)(hs:X.T.sz t=some s)(hp:Ls.Perm ([(b,av (xs.flatMap lay) T)] :: Rs))(hi:i<xs.length)(hj:j=i*s)
  (hk:cJ κ Ms ([(b,av ((xs.set i y0).flatMap lay) T)] :: Rs)) (g:WO X f ops k Ms r' e ([(b,av ((xs.set i y0).flatMap lay) T)] :: Rs)):WD X f ops k Ms κ none (.store t x y) r' e Ls:=by
 have h:=@WD.P9 X f ops k Ms Ls Rs κ r' e α lay y0 xs vs [] b i j s t T x y hl hκ hx hy hv hvl h1 hT hs
 rw [List.append_nil,List.append_nil] at h
 exact h hp hi hj hk g
end
theorem fv {α:Type}[DecidableEq α]:∀ {l m:List α},l.Nodup->(∀x∈l,x∈m)->l.length<=m.length
 | [],_,_,_=>Nat.zero_le _
 | x :: r,m,hn,h=>by
  rw [List.nodup_cons] at hn
  have hx:=h x (List.mem_cons_self ..)
  have:=fv (l:=r) (m:=m.erase x) hn.2 fun y hy=>(List.mem_erase_of_ne (by rintro rfl;exact hn.1 hy)).2 (h y (List.mem_cons_of_mem _ hy))
  rw [List.length_erase_of_mem hx] at this
  have h2:=List.length_pos_of_mem hx
  simp only [List.length_cons];omega
def RS (z:Nat):Nat:=16*cY (cY z 1024) 16
def En (all:List (Int×Ob))(k:Int):Nat:=match aH all k with
 | some o=>El (RS o.size) o
 | none=>0
def mS (all:List (Int×Ob))(ks:List Int):Nat:=(ks.map (En all)).sum
theorem Hb {all:List (Int×Ob)}{ks js:List Int}(h:ks.Perm js):mS all ks=mS all js:=(h.map _).sum_nat
def CmR (pr:Bool)(ls:List (Option Lv))(n txg:Nat)(all:List (Int×Ob))(od:List (Int×List Pt))(P:PS)(ks:List Int)(os:List (Int×Ob))(ds:List (Int×List Pt))(P2:PS)(mo:Ob)(fs:List Pt):Prop :=
 ∃P1 ds0,ks.Perm (all.map (·.1))/\lP pr ls n (txg+1) all P ks P1 os ds0/\wu pr ls n (txg+1) P1 (iQ (fH (slotsOf os))) P2 mo/\ds=ds0++[(0,bI (mo.ay++mo.index))]/\fs.Nodup/\(∀x,x∈fs↔x∈bc od/\x∉bc ds) /\
  j9 (bD pr ls.length n:Nat) (aN pr ls.length 1024:Nat) (aN pr ls.length 1024) (txg+1) P2.x fs
end Go.Sl
namespace Go.Proofs.YtcfioaeamfappaaGreatDoor
open Go.Sl
set_option maxRecDepth 10000
set_option maxHeartbeats 4000000
theorem aeu {G H:Prop}{α:Type}(lay:α->List Value)(y0:α)(xs:List α)(i:Nat)(s:Nat)(hs:∀a,(lay a).length=s)(k:H)(h:EP lay y0 xs i s->gE H->G:=by
 intro hs kk;refine go ?_;refine WO.dec rfl ?_
 apply WD.Uv hs;exact rfl;exact rfl;exact rfl;exact rfl;exact rfl;exact rfl;exact aB;exact rfl;exact pick;exact lens;exact om;exact keeps;exact kk.out):G:=h ⟨hs⟩ ⟨k⟩
section
variable (T:TypeId)(fr:Nat×Nat)(p:Nat)(qs:List Nat)(t pool:Nat)(tp:Tp)(pr:Bool)(n:Nat)(ls:List (Option Lv))(no:Nat)(V:Chunk)(hV:jd t pool tp pr n ls no V)(ok:dE tp pr n ls.length)(dx:n<=2048)(hall:∀x∈ls,x≠none)
variable (s al:Nat)(ra rd txg note:Nat)(g gt:Nat)(ib:1<=gt/\gt<=281474976710656)
include hV ok dx hall ib
theorem Uw (P:PS)(c:Nat)(a:Nat)(o:Ob)(A:Chunk)(Bh:Wr a o A)(NL:Nat)(Zv:NL<=64)(ho:Le NL o)(hP:jA qs pr ls n P (c+El NL o))(G C Al:Chunk)(hG:rG g s gt ((aN pr ls.length 1024:Nat):Int) P.ks G)(hC:br p qs P.R C)(hA:oN al ((bD pr ls.length n:Nat):Int) ((aN pr ls.length 1024:Nat):Int) P.x Al) :
  Ct 161 [ptr g,ptr a] [G,[(s,bS t (ptr al) ra rd txg note)],gK T fr,C,V,Al,A] fun u Bs=>∃P' a' o' X A',sB pr ls n gt P o P' o'/\jA qs pr ls n P' c/\Wr a' o' A'/\u = .tuple #[ptr a',.int .i64 0] /\
   ∃G' C' jI,rG g s gt ((aN pr ls.length 1024:Nat):Int) P'.ks G'/\br p qs P'.R C'/\oN al ((bD pr ls.length n:Nat):Int) ((aN pr ls.length 1024:Nat):Int) P'.x jI/\Bs=[G',[(s,bS t (ptr al) ra rd txg note)],gK T fr,C',V,jI,X,A']:=by
 cases qE:o.clean with
 | false =>
  unfold El at hP
  rw [qE,if_neg dZ] at hP
  refine (Qa T fr p qs t pool tp pr n ls no V hV ok dx hall s al ra rd txg note g gt ib P c a o A Bh qE NL Zv (by rw [Nat.add_assoc];exact hP) ho.fk ho.fl ho.pl ho.po G C Al hG hC hA).post fun u Bs => ?_
  rintro ⟨P',a',o',A',h1,h2,h3,rfl,G',C',jI,xq,bA,dX,rfl⟩
  exact ⟨P',a',o',A,A',.inr ⟨qE,h1⟩,h2,h3,rfl,G',C',jI,xq,bA,dX,rfl⟩
 | true =>
  unfold El at hP
  rw [qE,if_pos rfl] at hP
  have Ux:=Bh
  obtain ⟨je,cP,DP,dP,cI,DX,r,LF,CF,VF,Up,Ak,hM,hF,rfl⟩:=Bh
  rw [qE] at Ux ⊢
  refine st Tryz.func161 fun w0 => ?_
  refine gs ?_
  refine gz ?_
  exact fin ⟨P,a,o,[],_,.inl ⟨qE,rfl,rfl⟩,hP,Ux,rfl,G,C,Al,hG,hC,hA,rfl⟩ aa
end
section
variable (T:TypeId)(fr:Nat×Nat)(p:Nat)(qs:List Nat)(t pool:Nat)(tp:Tp)(pr:Bool)(n:Nat)(ls:List (Option Lv))(no:Nat)(V:Chunk)(hV:jd t pool tp pr n ls no V)(ok:dE tp pr n ls.length)(dx:n<=2048)(hall:∀x∈ls,x≠none)
variable (s al:Nat)(ra rd txg note:Nat)
include hV ok dx hall
theorem Qi (P:PS)(xP:P.ks=[])(LA:List (Int×Value))(all:List (Int×Ob))(CA VA:Chunk)(hMA:Mp ra .i64 LA CA)(IM:eT w9 LA all VA)(hkb:∀e∈all,1<=e.1/\e.1<=112)(KZ:∀e∈all,Le (RS e.2.size) e.2/\e.2.size<=65536/\e.2.used=true)
  (Ld:List (Int×Value)) (od:List (Int×List Pt)) (CD VD:Chunk) (hD:Mp rd .i64 Ld CD) (hDV:eT Pa Ld od VD) (sQ:∀e∈od,e.2.length<=200) (m:Nat) (hm:m=aN pr ls.length 1024) (ZC:wx m P.x od) (hrx:P.x.Ok (bD pr ls.length n:Nat) (aN pr ls.length 1024:Nat))
  (dS:Nat) (x6:pool<18446744073709551616) (Qd:dS<18446744073709551616) (Az:txg+1<=281474976710656)
  (hP:jA qs pr ls n P (10+mS all (LA.map (·.1)))) (C Al:Chunk) (hC:br p qs P.R C) (hA:oN al ((bD pr ls.length n:Nat):Int) ((aN pr ls.length 1024:Nat):Int) P.x Al) :
  Ct 118 [ptr s,.int .u64 dS] [[(s,bS t (ptr al) ra rd txg note)],gK T fr,C,V,CA,VA,CD,VD,Al] fun u Bs=>u = .int .i64 0/\∃ks os ds P2 mo fs,CmR pr ls n txg all od P ks os ds P2 mo fs/\∃r6 r7 LO LP C6 VO C7 VP C' jI,Mp r6 .i64 LO C6/\eT w9 LO os VO/\Mp r7 .i64 LP C7/\eT Pa LP ds VP/\jA qs pr ls n P2 0 /\
   br p qs (((P2.R.run (iF ls)).run (oA n ls ⟨pool,txg+1,dS,mo.root⟩)).run (iF ls)) C'/\oN al ((bD pr ls.length n:Nat):Int) ((aN pr ls.length 1024:Nat):Int) ((bq (txg+1) P2.x (aN pr ls.length 1024) fs).sync ((txg+1:Nat):Int)) jI/\Bs=[[(s,bS t (ptr al) r6 r7 (txg+1) dS)],gK T fr,C',V,C6,VO,C7,VP,jI]:=by
 subst hm
 have hz:=iA pr ok.hw ⟨ok.hn.1,dx⟩
 have Y9:=sv pr ok.hw ok.hp
 have ib:1<=txg+1/\txg+1<=281474976710656:=by omega
 have mH:=IM.keys
 have ek:=hMA.nodup
 have hlen:LA.length<=112:=by
  have h1:(LA.map (·.1)).length<=((List.range 112).map fun (i:Nat)=>((i+1:Nat):Int)).length:=by
   refine fv ek fun k hk => ?_
   rw [<-mH] at hk
   obtain ⟨e,he,rfl⟩:=List.mem_map.1 hk
   have:=hkb e he
   exact List.mem_map.2 ⟨(e.1 - 1).toNat,by simp;omega,by omega⟩
  simpa using h1
 have nF:IntKind.u64.wrap ((txg:Int)+1)=((txg+1:Nat):Int):=by rw [IntWalk.u64_in _ oZ];omega
 refine st Tryz.func118 fun w0 => ?_
 refine ga ?_;intro g
 refine uC .i64 ?_;intro r6 C6 h6
 refine uC .i64 ?_;intro r7 C7 h7
 refine gm ?_;intro g8 C8 LN
 have hC:C8=[(g8,av ((slotsOf []).flatMap eW.lay) 87)]:=by
  rcases LN.2.2 with ⟨h,_⟩ | ⟨g',c',r',hv,rfl,_,_,hlen⟩
  ·cases h
  ·cases hv
   have h3:=LN.1
   obtain rfl:r'=[]:=List.eq_nil_of_length_eq_zero oZ
   rw [List.append_nil]
   have:(List.replicate 112 eu.lay).flatten=(slotsOf []).flatMap eW.lay:=by
    rw [sC,pP 112 eu eW.lay]
   rw [<-this];rfl
 subst hC
 clear LN
 refine gc (yt s t (ptr al) ra rd txg note LA CA hMA hlen) ?_
 rintro _ _ ⟨ks,adK,cK,DK,IN, -,rfl,hDK,rfl⟩
 have Zw:=hDK.rd
 have Dc:ks.Nodup:=IN.nodup_iff.2 ek
 have lV:ks.length=LA.length:=by simpa using IN.length_eq
 rw [Hb IN.symm] at hP
 have hki:∀k∈ks,∃o,aH all k=some o/\1<=k/\k<=112:=fun k hk=>by
  have:=IN.mem_iff.1 hk
  rw [<-mH] at this
  obtain ⟨e,he,rfl⟩:=List.mem_map.1 this
  exact ⟨e.2,lG (by rw [mH];exact ek) he,hkb e he⟩
 refine gl [0,1,5,6,7,8,32,33] (fun ((j,_):Nat×PS×List (Int×Ob)×List (Int×List Pt)×List (Int×Value)×List (Int×Value)×Chunk×Chunk×Chunk×Chunk×Chunk×Chunk×Chunk×Chunk)=>[(34,.int .i64 j)]) (fun (_,_,os,_,_,_,C6,VO,C7,VP,VR,G,C,Al)=>[[(g8,av ((slotsOf os).flatMap eW.lay) 87)],C6,VO,C7,VP,VR,G,C,Al])
  (fun (j,P1,os,ds,LO,LP,C6,VO,C7,VP,VR,G,C,Al)=>j<=ks.length/\lP pr ls n (txg+1) all P (ks.take j) P1 os ds/\jA qs pr ls n P1 (10+mS all (ks.drop j))/\Mp r6 .i64 LO C6/\eT w9 LO os VO/\Mp r7 .i64 LP C7/\eT Pa LP ds VP/\eT w9 (sW (ks.take j) LA) (sW (ks.take j) all) VR/\(∀e∈os,(e.2.slot.Ok/\e.2.ay.length<=64/\e.2.index.length<=5))/\(∀e∈ds,e.2.length<=200)/\rG g s (txg+1) ((aN pr ls.length 1024:Nat):Int) P1.ks G/\br p qs P1.R C/\oN al ((bD pr ls.length n:Nat):Int) ((aN pr ls.length 1024:Nat):Int) P1.x Al) (fun (j,_)=>ks.length - j) (0,P,[],[],[],[],C6,[],C7,[],VA,[(g,av [ptr s,.int .u64 ((txg+1:Nat):Int),.slice none 0 0] 252)],C,Al) ⟨by omega,.nil,hP,h6,rfl,h7,rfl,by rw [List.take_zero,Em,Em];exact IM,fun _ h=>(List.not_mem_nil h).elim,fun _ h=>(List.not_mem_nil h).elim,⟨none,0,[],by rw [xP];exact az.nil _ _,by rw [xP];rfl⟩,hC,hA⟩ ?_
 clear h6 h7 IM hC hA hP
 rintro ⟨j,P1,os,ds,LO,LP,C6,VO,C7,VP,VR,G,C,Al⟩ ⟨hj,hR,hP,h6,hVO,h7,hVP,hVR,Pv,A8,hG,hC,hA⟩
 have hRk:=hR.keys
 refine gi ?_ ?_ <;> intro bh
 ·have bo:j<ks.length:=by omega
  obtain ⟨gK_,oK_,rfl⟩:=Zw.addr oZ
  obtain ⟨kz,jz⟩:∃kz,kz=ks[j]:=⟨_,rfl⟩
  have RJ:(ints ks)[j]? = some (.int .i64 kz):=by rw [jz];simp [ints,bo]
  obtain ⟨o,Bi,hk1⟩:=hki ks[j] (List.getElem_mem bo)
  rw [<-jz] at Bi hk1
  obtain ⟨kk,rfl⟩:∃kk:Nat,kz=((kk+1:Nat):Int):=⟨(kz - 1).toNat,by omega⟩
  have Yq:IntKind.i64.wrap (((kk+1:Nat):Int) - 1)=((kk:Nat):Int):=by rw [IntWalk.i64_in _ oZ];omega
  have aev:kk<112:=by omega
  have fM:=eI os
  have Uy:((kk+1:Nat):Int)∉ks.take j:=fun h=>by
   obtain ⟨i,hi,e⟩:=List.getElem_of_mem h
   rw [List.getElem_take,jz] at e
   rw [List.length_take] at hi
   exact List.pairwise_iff_getElem.1 Dc i j oZ bo oZ e
  obtain ⟨v,vV⟩:∃v,jP LA ((kk+1:Nat):Int)=some v:=by
   have qR:((kk+1:Nat):Int)∈LA.map (·.1):=IN.mem_iff.1 (by rw [jz];exact List.getElem_mem _)
   obtain ⟨e,he,e2⟩:=List.mem_map.1 qR
   exact ⟨e.2,by rw [<-e2];exact lG ek he⟩
  obtain ⟨o2,V1,D,V2,jc,rfl,⟨a,rfl,Bh⟩,Po⟩:=hVR.cut (by exact (List.filter_sublist.map _).nodup ek) (show jP (sW (ks.take j) LA) ((kk+1:Nat):Int)=some v by show aH _ _=_;rw [AA Uy];exact vV)
  obtain rfl:o=o2:=by rw [AA Uy,Bi] at jc;exact Option.some.inj jc
  rw [show ir (sW (ks.take j) LA) ((kk+1:Nat):Int)=sW (ks.take (j+1)) LA by rw [aG ks bo,<-jz];exact yE _ _ _,yE,jz,<-aG ks bo] at Po
  have Zh:=KZ _ (aI Bi)
  have Zv:RS o.size<=64:=by have:=Zh.2.1;unfold RS cY;simp only at this;omega
  have abO:mS all (ks.drop j)=El (RS o.size) o+mS all (ks.drop (j+1)):=by
   rw [List.drop_eq_getElem_cons bo,<-jz]
   simp only [mS,En,List.map_cons,List.sum_cons,Bi]
  have hP':jA qs pr ls n P1 (10+mS all (ks.drop (j+1))+El (RS o.size) o):=by rw [abO] at hP;exact hP.le oZ
  have BD:=Uw T fr p qs t pool tp pr n ls no V hV ok dx hall s al ra rd txg note g (txg+1) ib P1 _ a o D Bh _ Zv Zh.1 hP' G C Al hG hC hA
  refine gs ?_
  refine gc BD ?_
  rintro _ _ ⟨P2,a',o',X,A',Mg,I0,⟨je,cP,DP,dP,cI,DX,r,LF,CF,VF,Up,Ak,hM,hF,rfl⟩,rfl,G',C',jI,xq,bA,dX,rfl⟩
  obtain ⟨g1,g2,g3,g4,g5,g6⟩:=Mg.RQ hz.2 ib Zv Zh.1
  have hpp:=tF a' o' je cP DP dP cI DX r Up Ak oZ oZ
  refine gs ?_
  refine qC [[(a',xu o'.used o'.size o'.root (.slice je o'.ay.length cP) (.slice dP o'.index.length cI) r o'.clean)]] [0,4,8,12,16,20,24,28,32,36,40,44,48,53,57,60,65,71] ?_
  refine gc hpp ?_
  rintro _ _ ⟨lC,cq,Dq,rfl,ZG,rfl⟩
  refine gu ?_
  intro C6' h6'
  refine aeu eW.lay o'.slot (slotsOf os) kk 11 eW.aj ?_
  refine gu ?_
  intro C7' h7'
  have rF:((kk+1:Nat):Int)∉os.map (·.1):=by rw [hRk.1];exact Uy
  have Qj:((kk+1:Nat):Int)∉ds.map (·.1):=by rw [hRk.2];exact Uy
  have hnO:((kk+1:Nat):Int)∉LO.map (·.1):=by rw [<-hVO.keys];exact rF
  have hnP:((kk+1:Nat):Int)∉LP.map (·.1):=by rw [<-hVP.keys];exact Qj
  rw [<-AB aev rF]
  have aew:eT w9 (gJ LO ((kk+1:Nat):Int) (ptr a')) (os++[(((kk+1:Nat):Int),o')]) (VO++([(a',xu o'.used o'.size o'.root (.slice je o'.ay.length cP) (.slice dP o'.index.length cI) r o'.clean)]++(DP++(DX++(CF++VF))))):=by
   rcases hVO.look ((kk+1:Nat):Int) with ⟨-, -,h3⟩ | ⟨v,x,W1,E1,W2, -,h2, -⟩
   ·rw [<-mQ rF]
    exact h3 _ _ _ ⟨a',rfl,je,cP,DP,dP,cI,DX,r,LF,CF,VF,Up,Ak,hM,hF,rfl⟩
   ·rw [jU rF] at h2;cases h2
  have Uz:eT Pa (gJ LP ((kk+1:Nat):Int) (.slice lC (bI (o'.ay++o'.index)).length cq)) (ds++[(((kk+1:Nat):Int),bI (o'.ay++o'.index))]) (VP++Dq):=by
   rcases hVP.look ((kk+1:Nat):Int) with ⟨-, -,h3⟩ | ⟨v,x,W1,E1,W2, -,h2, -⟩
   ·rw [<-mQ Qj]
    exact h3 _ _ _ ZG
   ·rw [jU Qj] at h2;cases h2
  refine gn ?_
  refine ⟨(j+1,P2,os++[(((kk+1:Nat):Int),o')],ds++[(((kk+1:Nat):Int),bI (o'.ay++o'.index))],_,_,C6',_,C7',_,V1++V2,G',C',jI),⟨by omega, ?_,I0,h6',aew,h7',Uz,Po,fun e he => ?_,fun e he => ?_,xq,bA,dX⟩,by simp only;omega,aq,_,aa⟩
  ·rw [aG ks bo,<-jz]
   exact .snoc hR Bi Mg
  ·rcases List.mem_append.1 he with he | he
   ·exact Pv e he
   ·rw [List.mem_singleton.1 he]
    exact ⟨⟨fun hu=>(by rw [show o'.slot.used=o.used from g5,Zh.2.2] at hu;cases hu),by rw [show o'.slot.size=o.size from g6];exact Zh.2.1,g4.1,g4.2⟩,by simp only;omega,g3⟩
  ·rcases List.mem_append.1 he with he | he
   ·exact A8 e he
   ·rw [List.mem_singleton.1 he]
    have:=kV (o'.ay++o'.index)
    rw [List.length_append] at this
    simp only;omega
 ·obtain rfl:j=ks.length:=by omega
  rw [List.take_length] at hR hRk
  rw [List.drop_length,show mS all []=0 from rfl] at hP
  clear hVR
  obtain ⟨SL,WH⟩:∃SL,SL=slotsOf os:=⟨_,rfl⟩
  have ZH:SL.length=112:=by rw [WH];exact eI os
  rw [<-WH]
  have Hc:=Tb [(g8,av (SL.flatMap eW.lay) 87)] (some ⟨g8,0,none⟩) 112 112 SL ZH (aw (by rw [fL (lay:=eW.lay) (s:=11) eW.aj,ZH]) (Qh _) oZ 112) oZ (fun x hx=>by
   rw [WH] at hx
   rcases sD hx with rfl | ⟨k,o,ho,rfl⟩
   ·exact uY
   ·exact (Pv _ (aI ho)).1)
  refine gc Hc ?_
  rintro _ _ ⟨g9,rfl,rfl⟩
  refine uC .i64 ?_;intro r15 WI h15
  refine ga ?_;intro a15
  obtain ⟨TB,ZI⟩:∃TB,TB=fH SL:=⟨_,rfl⟩
  have UA:TB.length=8064:=by rw [ZI,mA,ZH]
  rw [<-ZI]
  have abP:=SZ [(g9,av (ak TB) 5)] (some ⟨g9,0,none⟩) 8064 8064 TB UA (aw (by rw [ai,UA]) (aK _) oZ 8064) oZ oZ
  rw [show cY 8064 1024=8 from rfl] at abP
  refine gc abP ?_
  rintro _ _ ⟨bG,cS,vs,DS,VS,rfl,Uk,hVS,rfl⟩
  have hvl:vs.length=8:=by
   have h1:=hVS.len
   rw [show (eS TB).length=8 by simp [eS,dA,UA,cY]] at h1;exact h1
  have ZJ:=Uk.rd
  have LS:(iZ 0 vs).length=8:=by rw [kU];exact hvl
  have abQ:(eS TB).length=8:=by simp [eS,dA,UA,cY]
  refine gl [0,1,5,6,7,15,80,81] (fun ((i,_):Nat×Chunk)=>[(82,.int .i64 i)]) (fun (_,WI)=>[WI]) (fun (i,WI)=>i<=8/\Mp r15 .i64 ((iZ 0 vs).take i) WI) (fun (i,_)=>8 - i) (0,WI) ⟨by omega,h15⟩ ?_
  clear h15
  rintro ⟨i,WI⟩ ⟨hi,h15⟩
  refine gi ?_ ?_ <;> intro pD
  ·have bo:i<8:=by omega
   obtain ⟨gS,oS,rfl⟩:=ZJ.addr oZ
   obtain ⟨A9,B9,E9,v9, -,hv9,hB9, -⟩:=hVS.at (i:=i) oZ
   obtain ⟨Md,c9,rfl⟩:=hB9.slice
   refine gu ?_
   intro aex abR
   have rF:((i:Nat):Int)∉((iZ 0 vs).take i).map (·.1):=fun h=>by
    obtain ⟨e,he,e2⟩:=List.mem_map.1 h
    obtain ⟨j,hj,rfl⟩:=List.getElem_of_mem he
    rw [List.length_take] at hj
    rw [List.getElem_take,mR] at e2
    simp only at e2;omega
   rw [Qf rF,show (iZ 0 vs).take i++[((i:Int),Value.slice Md (eS TB)[i].length c9)]=(iZ 0 vs).take (i+1) by
    rw [aG _ (show i<(iZ 0 vs).length by omega),mR]
    congr 3
    ·omega
    ·rw [List.getElem?_eq_getElem oZ] at hv9;exact (Option.some.inj hv9).symm] at abR
   refine gn ?_
   exact ⟨(i+1,aex),⟨by omega,abR⟩,by simp only;omega,aq,_,aa⟩
  ·obtain rfl:i=8:=by omega
   rw [List.take_of_length_le oZ] at h15
   have hmg:eT lE (iZ 0 vs) (iZ 0 (eS TB)) VS:=Qg 0 hVS
   have Bh:Wr a15 (iQ TB) ([(a15,xu false 0 ah (.slice none 0 0) (.slice none 0 0) r15 false)]++([]++([]++(WI++VS)))):=⟨none,0,[],none,0,[],r15,iZ 0 vs,WI,VS,az.nil _ _,az.nil _ _,h15,hmg,rfl⟩
   have hmf:(iQ TB).fresh.length=8:=by show (iZ 0 (eS TB)).length=8;rw [kU];exact abQ
   have KV:Le 8 (iQ TB):=⟨fun e he=>by
    obtain ⟨j,hj,e1,e2⟩:=qg he
    have:=yF _ (List.mem_of_getElem? e2)
    omega,by rw [hmf];omega,by simp [iQ],fun _ h=>(List.not_mem_nil h).elim,by simp [iQ],by simp [iQ,fy],by simp only [iQ];exact dw⟩
   have BD:=Qa T fr p qs t pool tp pr n ls no V hV ok dx hall s al ra rd txg note g (txg+1) ib P1 0 a15 _ _ Bh rfl 8 oZ (hP.le (by rw [hmf];decide)) KV.fk KV.fl KV.pl KV.po G C Al hG hC hA
   refine gc BD ?_
   rintro _ _ ⟨P2,a2,mo,A2,hRm,I0,⟨je,cP,DP,dP,cI,DX,r,LF,CF,VF,Up,Ak,hM,hF,rfl⟩,rfl,G2,C2,Al2,hG2,BY,lr,rfl⟩
   obtain ⟨g1,g2,g3,g4,g5,g6,g7⟩:=hRm.RQ hz.2 ib oZ KV
   have hpp:=tF a2 mo je cP DP dP cI DX r Up Ak oZ oZ
   refine gs ?_
   refine gc hpp ?_
   rintro _ _ ⟨lC,cq,Dq,rfl,ZG,rfl⟩
   refine gu ?_
   intro C7' h7'
   have jo:=fun C' bA=>pQ (p:=p) (qs:=qs) (t:=t) (hV:=hV) (ok:=ok) (R:=P2.R) (C:=C') (hC:=bA) (ho:=I0.lv) (hall:=hall)
   rw [wv I0.on] at jo
   refine gc (jo C2 BY) ?_
   rintro _ _ ⟨C3,rfl,ka,rfl⟩
   have Cz:=I0.ws
   have afT:=Rk.iJ P2.R (iF ls)
   have afU:=Uu (ls:=ls) ok.hw.2
   have AZ:=Ek T fr p qs t pool tp pr n ls no V hV ok hall (P2.R.run (iF ls)) C3 ka (I0.lv.run _) (I0.on.run _) s (ptr al) ra rd txg note mo.root g4.1 g4.2 dS x6 Qd Az g7 oZ
   refine gc AZ ?_
   rintro _ _ ⟨rfl,C4,hC4,rfl⟩
   have Gh:=hR.go.trans hRm.go
   have abS:(0:Int)∉ds.map (·.1):=by
    rw [hRk.2]
    intro h
    obtain ⟨-, -,h1, -⟩:=hki _ h
    omega
   have Uz:eT Pa (gJ LP 0 (.slice lC (bI (mo.ay++mo.index)).length cq)) (ds++[(0,bI (mo.ay++mo.index))]) (VP++Dq):=by
    rcases hVP.look 0 with ⟨-, -,h3⟩ | ⟨v,x,W1,E1,W2, -,h2, -⟩
    ·rw [<-mQ abS]
     exact h3 _ _ _ ZG
    ·rw [jU abS] at h2;cases h2
   have htu:=ZB t pool tp pr n ls no V hV ok dx s al ra rd (txg+1) dS (aN pr ls.length 1024) rfl P2.x (Gh.ok hrx) Al2 lr oZ r6 r7 _ _ C7' (VP++Dq) h7' Uz (fun e he=>by
    rcases List.mem_append.1 he with he | he
    ·exact A8 e he
    ·rw [List.mem_singleton.1 he]
     have:=kV (mo.ay++mo.index)
     rw [List.length_append] at this
     simp only;omega) Ld od CD VD hD hDV sQ (ZC.go Gh.ge)
   refine gc htu ?_
   rintro _ _ ⟨rfl,fs,Al3,zl,zQ,zP,uQ,rfl⟩
   refine gs ?_
   refine gz ?_
   exact fin ⟨rfl,ks,os,_,P2,mo,fs,⟨P1,ds,by rw [mH];exact IN,hR,by rw [<-WH,<-ZI];exact hRm,rfl,zl,zQ,zP⟩,r6,r7,LO,_,C6,VO,C7',_,C4,Al3,h6,hVO,h7',Uz,I0,hC4,uQ,rfl⟩ aa
end
end Go.Proofs.YtcfioaeamfappaaGreatDoor
namespace Go.Sl
def jJ (up:Pt->List Pt)(x:Pt):List Pt:=if x=ah then List.replicate 16 ah else up x
def fe (up:Pt->List Pt)(l:List Pt):List Pt:=l.flatMap (jJ up)
structure Qk (R:Rk)(ls:List (Option Lv))(pr:Bool)(n:Nat)(up:Pt->List Pt)(x:Pt):Prop where
 Ql:KC R ls pr n x (fR (up x))
 len:1<=(up x).length/\(up x).length<=16
 ok:∀y∈up x,fy y=0/\y.Ok
theorem Lf {up:Pt->List Pt}{l:List Pt}{i:Nat}(h:i<l.length):fe up (l.take (i+1))=fe up (l.take i)++jJ up l[i]:=by
 unfold fe
 rw [aG l h,List.flatMap_append,List.flatMap_singleton]
theorem qh {R:Rk}{ls:List (Option Lv)}{pr:Bool}{n:Nat}{up:Pt->List Pt}:∀ {l:List Pt},(∀x∈l,x≠ah->Qk R ls pr n up x)->(fe up l).length<=16*l.length
 | [],_=>by simp [fe]
 | x :: r,h=>by
  have ih:=qh (l:=r) fun y hy=>h y (List.mem_cons_of_mem _ hy)
  have hx:(jJ up x).length<=16:=by
   unfold jJ
   split
   ·simp
   ·exact (h x (List.mem_cons_self ..) (by assumption)).len.2
  simp only [fe,List.flatMap_cons,List.length_append,List.length_cons] at *
  omega
structure rM (R:Rk)(ls:List (Option Lv))(pr:Bool)(n:Nat)(up:Pt->List Pt)(x:Pt):Prop where
 top:x≠ah->Qk R ls pr n up x
 jE:x≠ah->(up x).length<=4
 ko:x≠ah->∀y∈up x,y≠ah->Qk R ls pr n up y
def lH (up:Pt->List Pt)(s:eW):Ob:=if s.root=ah then ⟨s.used,s.size,s.root,[],[],[],true⟩ else ⟨s.used,s.size,s.root,fe up (up s.root),up s.root++[s.root],[],true⟩
end Go.Sl
namespace Go.Proofs.YtcfioaeamfappaaGreatDoor
open Go.Sl
set_option maxRecDepth 10000
set_option maxHeartbeats 4000000
theorem aey:(Builtin.zeroCells (Value.agg #[.int .i64 0,.int .i64 0,.int .i64 0,.int .u64 0,.int .i64 0,.int .u64 0,.int .u64 0,.int .u64 0,.int .u64 0]).cells 16).toList=(List.replicate 16 ah).flatMap Pt.lay:=by kernel_rfl
section
variable (T:TypeId)(fr:Nat×Nat)(p:Nat)(qs:List Nat)(t pool:Nat)(tp:Tp)(pr:Bool)(n:Nat)(ls:List (Option Lv))(no:Nat)(V:Chunk)(hV:jd t pool tp pr n ls no V)(ok:dE tp pr n ls.length)(R:Rk)(C:Chunk)(hC:br p qs R C)(ho:dI qs R n ls)(hall:∀x∈ls,x≠none)(bW:R.off=false)
include hV ok hC ho hall bW
theorem UB (up:Pt->List Pt)(l:List Pt)(hl:l.length<=16)(h:∀x∈l,x≠ah->Qk R ls pr n up x)(O:Chunk)(ad:Option Addr)(c:Nat)(hO:Rd O 9 (.slice ad l.length c) l.length (aO l)) :
  Ct 129 [ptr t,.slice ad l.length c] [gK T fr,C,V,O] fun u Bs=>∃ba c' D,u = .tuple #[.slice ba (fe up l).length c',.int .i64 0]/\az D 85 9 (.slice ba (fe up l).length c') (fe up l).length (aO (fe up l))/\Bs=[D,gK T fr,C,V,O]:=by
 have vV:=fun i=>qh (R:=R) (ls:=ls) (pr:=pr) (n:=n) (up:=up) (l:=l.take i) fun x hx=>h x (List.mem_of_mem_take hx)
 refine st Tryz.func129 fun w0 => ?_
 refine gl [0,12,13] (fun ((i,v6,_):Nat×Value×Chunk)=>[(14,.int .i64 i),(6,v6)]) (fun (_,_,D)=>[D]) (fun (i,v6,D)=>i<=l.length/\(∃ad c,v6 = .slice ad (fe up (l.take i)).length c)/\az D 85 9 v6 (fe up (l.take i)).length (aO (fe up (l.take i)))) (fun (i,_)=>l.length - i) (0,.slice none 0 0,[]) ⟨by omega,⟨none,0,rfl⟩,az.nil _ _⟩ ?_
 rintro ⟨i,v6,D⟩ ⟨hi,⟨F3,c6,rfl⟩,hD⟩
 have hb:=vV i
 rw [List.length_take] at hb
 refine gi ?_ ?_ <;> intro bh
 ·have bo:i<l.length:=by omega
  obtain ⟨g,off,rfl⟩:=hO.addr oZ
  obtain ⟨x,hx⟩:∃x,x=l[i]:=⟨_,rfl⟩
  have hs:=ar (lay:=Pt.lay) (s:=9) (fun _=>rfl) l i x (by rw [hx];simp)
  have cu:fe up (l.take (i+1))=fe up (l.take i)++jJ up x:=by rw [Lf bo,<-hx]
  refine ga ?_;intro b8
  refine gi ?_ ?_ <;> intro hz
  ·have GK:x=ah:=(Pt.ext_iff x ah).2 (by simpa [ah] using hz)
   have yO:jJ up x=List.replicate 16 ah:=if_pos GK
   rw [yO] at cu
   refine gpn ?_;intro sN c7 D7 hD7
   have jc:(fe up (l.take (i+1))).length=(fe up (l.take i)).length+16:=by rw [cu];simp
   refine gn ?_
   exact ⟨(i+1,_,D7),⟨by omega,⟨sN,c7,by rw [jc]⟩,by rw [jc,cu,aO,List.flatMap_append,<-aey];exact hD7⟩,by simp only;omega,aq,_,aa⟩
  ·have GK:x≠ah:=fun e=>by rw [e] at hz;simp [ah] at hz
   have hu:=h x (by rw [hx];exact List.getElem_mem _) GK
   have yO:jJ up x=up x:=if_neg GK
   rw [yO] at cu
   have hlen:=hu.len
   have oM:=Pd T fr p qs t pool tp pr n ls no V hV ok R C hC ho hall bW x _ hu.Ql
   refine gc oM ?_
   rintro _ _ ⟨adO,O',rfl,hO',rfl⟩
   obtain ⟨k,hk⟩:∃k,k=(up x).length:=⟨_,rfl⟩
   have Jl:(fR (up x)).length=64*k:=by rw [jm,hk]
   rw [Jl] at hO' ⊢
   refine gc (N2 O' adO _ _ k (up x) hk.symm rfl hO' (Nat.le_refl _) oZ hu.ok) ?_
   rintro _ _ ⟨Md,c9,D9,rfl,Fl,rfl⟩
   refine gp ?_;intro sN c7 D7 hD7
   have jc:(fe up (l.take (i+1))).length=(fe up (l.take i)).length+k:=by rw [cu,List.length_append,hk]
   refine gn ?_
   exact ⟨(i+1,_,D7),⟨by omega,⟨sN,c7,by rw [jc]⟩,by rw [jc,cu];simpa [aO] using hD7⟩,by simp only;omega,aq,_,aa⟩
 ·obtain rfl:i=l.length:=by omega
  rw [List.take_length] at hD ⊢
  refine gz ?_
  exact fin ⟨F3,c6,D,rfl,hD,rfl⟩ aa
theorem Qm (up:Pt->List Pt)(s:eW)(h:rM R ls pr n up s.root) :
  Ct 73 [ptr t,s.agg] [gK T fr,C,V] fun u Bs=>∃a A,Wr a (lH up s) A/\u = .tuple #[ptr a,.int .i64 0]/\Bs=[A,gK T fr,C,V]:=by
 have hlc:=fun l hl hh O ad c hO=>UB T fr p qs t pool tp pr n ls no V hV ok R C hC ho hall bW up l hl hh O ad c hO
 obtain ⟨us,sz,x⟩:=s
 simp only at h
 refine st Tryz.func73 fun w0 => ?_
 refine ga ?_;intro b3
 refine uC .i64 ?_;intro r6 C6 h6
 refine ga ?_;intro a6
 refine gi ?_ ?_ <;> intro hz
 ·have GK:x=ah:=(Pt.ext_iff x ah).2 (by simpa [ah] using hz)
  have e:lH up ⟨us,sz,x⟩=⟨us,sz,x,[],[],[],true⟩:=if_pos GK
  rw [e]
  refine gz ?_
  exact fin ⟨a6,_,⟨none,0,[],none,0,[],r6,[],C6,[],az.nil _ _,az.nil _ _,h6,rfl,rfl⟩,rfl,rfl⟩ aa
 ·have GK:x≠ah:=fun e=>by rw [e] at hz;simp [ah] at hz
  have e:lH up ⟨us,sz,x⟩=⟨us,sz,x,fe up (up x),up x++[x],[],true⟩:=if_neg GK
  have hu:=h.top GK
  have hf:=h.jE GK
  have yO:=h.ko GK
  have s7:fe up [x]=up x:=by simp [fe,jJ,GK]
  have jc:(fe up (up x)).length<=64:=by have:=qh (l:=up x) yO;omega
  rw [e]
  refine gm ?_;intro b24
  have hc1:=hlc [x] (by simp) (fun y hy hy0=>by rw [List.mem_singleton.1 hy];exact hu) [(b24,av x.lay 85)] (some ⟨b24,0,none⟩) 1 (by simpa [aO] using aw (xs:=x.lay) (by rw [Pt.aj]) (fun u hu=>Ej [x] u (by simpa [aO] using hu)) (by simp) _)
  rw [s7] at hc1
  refine gc hc1 ?_
  rintro _ _ ⟨Wn,cU,DU,rfl,hDU,rfl⟩
  have hc2:=hlc (up x) oZ yO DU Wn cU hDU.rd
  refine Y7 [[(b3,av (⟨us,sz,x⟩:eW).lay 87)]] (aA.cons (0,0) (aA.cons (1,0) (aA.cons (3,0) (aA.cons (4,0) (aA.fork 2 (aA.yP [(5,1),(6,1),(7,0),(8,0),(9,3)]) 5 (aA.yP [(2,1),(6,1),(7,0),(8,0),(9,3)])))))) ?_
  refine gk ?_ ?_
  case' refine_1 =>
   refine gc (ep DU Wn _ cU _ hDU.rd oZ) ?_
   rintro _ _ ⟨adC,cC,DC,rfl,hDC,rfl⟩
   refine gm ?_;intro b36
  case' refine_2 =>
   refine gm ?_;intro b36
   refine gc (ep DU Wn _ cU _ hDU.rd oZ) ?_
   rintro _ _ ⟨adC,cC,DC,rfl,hDC,rfl⟩
  all_goals
   refine gp ?_;intro dP cI DI YW
   refine gc hc2 ?_
   rintro _ _ ⟨je,cP,DP,rfl,hDP,rfl⟩
   refine gz ?_
   have bo:(up x++[x]).length=(up x).length+1:=by simp
   exact fin ⟨a6,_,⟨je,cP,DP,dP,cI,DI,r6,[],C6,[],hDP,by rw [bo];simpa [aO,Pt.lay] using YW,h6,rfl,rfl⟩,rfl,rfl⟩ (by simp only [bo];exact aa)
end
end Go.Proofs.YtcfioaeamfappaaGreatDoor
namespace Go.Sl
def fX (up:Pt->List Pt)(root:Pt):Ob:=lH up ⟨false,8064,root⟩
def Qn (n:Nat)(ls:List (Option Lv))(no:Nat)(u:Ub)(R:Rk):Rk:=(((bP ls 22528 R no 0 (aX R ls)).1.run (oA n ls u)).run (iF ls))
theorem eJ (up:Pt->List Pt)(s:eW):(lH up s).size=s.size/\(lH up s).root=s.root/\(lH up s).used=s.used/\(lH up s).fresh=[]/\(lH up s).clean=true:=by unfold lH;split <;> exact ⟨rfl,rfl,rfl,rfl,rfl⟩
theorem rM.len {R:Rk}{ls:List (Option Lv)}{pr:Bool}{n:Nat}{up:Pt->List Pt}{s:eW}(h:rM R ls pr n up s.root):(lH up s).ay.length<=64/\(lH up s).index.length<=5:=by
 unfold lH
 split
 ·exact ⟨by simp,by simp⟩
 ·rename_i hx
  have h1:=qh (l:=up s.root) (h.ko hx)
  have h2:=h.jE hx
  exact ⟨by simp only;omega,by simp only [List.length_append,List.length_cons,List.length_nil];omega⟩
theorem wz (rd:Pt->List UInt8)(o:Ob)(hs:o.size=8064):∀i,i<=8->((List.range i).flatMap (o.fN rd)).length=min (i*1024) 8064
 | 0,_=>rfl
 | i+1,h=>by
  rw [List.range_succ,List.flatMap_append,List.length_append,wz rd o hs i oZ,List.flatMap_singleton,Ob.fN,dQ,hs,aT]
  omega
end Go.Sl
namespace Go.Proofs.YtcfioaeamfappaaGreatDoor
open Go.Sl
set_option maxRecDepth 10000
set_option maxHeartbeats 4000000
section
variable (T:TypeId)(fr:Nat×Nat)(p:Nat)(qs:List Nat)(t pool:Nat)(tp:Tp)(pr:Bool)(n:Nat)(ls:List (Option Lv))(no:Nat)(V:Chunk)(hV:jd t pool tp pr n ls no V)(ok:dE tp pr n ls.length)(R:Rk)(C:Chunk)(hC:br p qs R C)(ho:dI qs R n ls)(hall:∀x∈ls,x≠none)(bW:R.off=false)
variable (s:Nat)(vA:Value)(ra rd txg note:Nat)
include hV ok hC ho hall bW
theorem Qo (CD:Chunk)(hD:Mp rd .i64 [] CD)(up:Pt->List Pt)(root:Pt)(h:rM R ls pr n up root)(du:Pt->List UInt8)(hl:∀x∈(fX up root).ay,x≠ah->KC R ls pr n x (du x))(SL:List eW)(WH:SL.length=112)(hSo:∀s∈SL,s.Ok)(Hc:(List.range 8).flatMap ((fX up root).fN du)=fH SL) :
  Ct 72 [ptr s,root.agg] [[(s,bS t vA ra rd txg note)],gK T fr,C,V,CD] fun u Bs=>∃ad c D v CD' DP,u = .tuple #[.slice ad 112 c,.int .i64 0]/\az D 87 11 (.slice ad 112 c) 112 (SL.flatMap eW.lay)/\Mp rd .i64 [(0,v)] CD'/\Pa v (bI ((fX up root).ay++(fX up root).index)) DP/\Bs=[D,[(s,bS t vA ra rd txg note)],gK T fr,C,V,CD',DP]:=by
 have hld:=Qm T fr p qs t pool tp pr n ls no V hV ok R C hC ho hall bW up ⟨false,8064,root⟩ h
 have xm:=rM.len (s:=⟨false,8064,root⟩) h
 have bx:=(eJ up ⟨false,8064,root⟩).1
 have oQ:=(eJ up ⟨false,8064,root⟩).2.2.2.1
 unfold fX at hl Hc ⊢
 obtain ⟨mo,KV⟩:∃mo,mo=lH up ⟨false,8064,root⟩:=⟨_,rfl⟩
 rw [<-KV] at hld xm bx oQ hl Hc ⊢
 have ef:=fun a A hA i hi=>pX T fr p qs t pool tp pr n ls no V hV ok R C hC ho hall bW s vA ra rd txg note a mo (by rw [bx];simp only;omega) A hA i hi du (fun x hx=>hl x (List.mem_of_getElem? hx)) (fun e he=>by rw [oQ] at he;cases he)
 have ZK:=wz du mo bx
 have hb8:=ZK 8 (Nat.le_refl _)
 clear KV
 refine st Tryz.func72 fun w0 => ?_
 refine ga ?_;intro b3
 refine gd [0,4,8,12,16,20,27,30,34,38,42,46] ?_
 refine gc hld ?_
 rintro _ _ ⟨a,A,hA,rfl,rfl⟩
 have ef:=fun i hi=>ef a A hA i hi
 have dX:=hA
 obtain ⟨je,cP,DP,dP,cI,DI,r,LF,CF,VF,hP,hI,hM,hF,rfl⟩:=dX
 refine gs ?_
 refine qC [[(s,bS t vA ra rd txg note)]] [0,4,8,12,16,21,27] ?_
 refine gc (tF a mo je cP DP dP cI DI r hP hI oZ oZ) ?_
 rintro _ _ ⟨lC,cq,Dq,rfl,ZG,rfl⟩
 refine gu ?_
 intro CD' eo
 rw [show mo.size=8064 from bx] at ef ⊢
 refine gl [0,6,38] (fun ((i,v8,_):Nat×Value×Chunk)=>[(39,.int .i64 i),(8,v8)]) (fun (_,_,E)=>[E]) (fun (i,v8,E)=>i<=8/\(∃ad c,v8 = .slice ad (min (i*1024) 8064) c)/\az E 5 1 v8 (min (i*1024) 8064) (ak ((List.range i).flatMap (mo.fN du)))) (fun (i,_)=>8 - i) (0,.slice none 0 0,[]) ⟨by omega,⟨none,0,rfl⟩,az.nil _ _⟩ ?_
 rintro ⟨i,v8,E⟩ ⟨hi,⟨yd,c8,rfl⟩,hE⟩
 refine gi ?_ ?_ <;> intro bh
 ·have GP:=ef i oZ
  have Ba:=ZK (i+1) oZ
  have Y6:ak ((List.range i).flatMap (mo.fN du))++ak (mo.fN du i)=ak ((List.range (i+1)).flatMap (mo.fN du)):=by rw [<-aE,List.range_succ,List.flatMap_append,List.flatMap_singleton]
  have cV:(mo.fN du i).length=aT 8064 i:=by rw [Ob.fN,dQ,bx]
  have Wu:min (i*1024) 8064+aT 8064 i=min ((i+1)*1024) 8064:=by unfold aT;omega
  have hb2:aT 8064 i<=1024:=by unfold aT;omega
  generalize aT 8064 i=L at *
  refine gc GP ?_
  rintro _ _ ⟨g,rfl,rfl⟩
  refine gs ?_
  have hRg:Rd [(g,av (ak (mo.fN du i)) 5)] 1 (.slice (some ⟨g,0,none⟩) L L) L (ak (mo.fN du i)):=aw (by rw [ai,cV,Nat.mul_one]) (aK _) oZ _
  refine gp ?_;intro Md c9 E9 Zi
  rw [Y6] at Zi
  rw [Wu] at Zi ⊢
  refine gn ?_
  exact ⟨(i+1,_,E9),⟨by omega,⟨Md,c9,rfl⟩,Zi⟩,by simp only;omega,aq,_,aa⟩
 ·obtain rfl:i=8:=by omega
  rw [Hc] at hE
  refine gc (Tc E yd 8064 c8 112 SL WH rfl hE.rd (by have:=hE.dL;omega) oZ hSo) ?_
  rintro _ _ ⟨Md,c9,D9,rfl,Fl,rfl⟩
  refine gz ?_
  exact fin ⟨Md,c9,D9,_,CD',Dq,rfl,Fl,eo,ZG,rfl⟩ aa
end
section
variable (T:TypeId)(fr:Nat×Nat)(p:Nat)(qs:List Nat)(t pool:Nat)(tp:Tp)(pr:Bool)(n:Nat)(ls:List (Option Lv))(no:Nat)(V:Chunk)(hV:jd t pool tp pr n ls no V)(ok:dE tp pr n ls.length)(R:Rk)(C:Chunk)(hC:br p qs R C)(ho:dI qs R n ls)(hall:∀x∈ls,x≠none)(bW:R.on)
include hV ok hC ho hall bW
theorem UC (u:Ub)(hu:zC u=0)(huo:u.Ok)(nz:u.pool=pool)(eV:1<=no/\no+22528<=281474976710656)(hw:R.ws.length+200000<=900000000000)(hS:∀k,(tD R ls k).length=88)(Qp:(bP ls 22528 R no 0 (aX R ls)).1.on)(ZL:dI qs (bP ls 22528 R no 0 (aX R ls)).1 n ls)(Yq:(bP ls 22528 R no 0 (aX R ls)).1.ws.length+100<=900000000000) :
  Ct 76 [ptr t,u.agg] [gK T fr,C,V] fun v Bs=>v = .int .i64 0/\∃C' V',br p qs (Qn n ls no u R) C'/\jd t pool tp pr n ls (bP ls 22528 R no 0 (aX R ls)).2 V'/\Bs=[gK T fr,C',V']:=by
 have tc:=yz T fr p qs t pool tp pr n ls no V hV ok hall R C hC ho 0 22528 oZ hS
 have Zp:=GW hS
 rw [List.drop_zero,List.take_of_length_le oZ] at tc
 have hlw:=fun D ad c hD hc=>wi T fr p qs t pool tp pr n ls no V hV ok hall R C hC ho 0 (aX R ls) 22528 Zp oZ eV oZ D ad c hD hc
 rw [if_neg (fun h=>by rw [Qp.2] at h;exact absurd h.2 dZ)] at hlw
 unfold Qn
 generalize bP ls 22528 R no 0 (aX R ls)=X at *
 obtain ⟨R1,Fo⟩:=X
 simp only at *
 have IE:=fun C1 V1 qZ ZM=>IG T fr p qs t pool tp pr n ls Fo V1 ZM ok R1 C1 qZ ZL hall u hu huo nz oZ
 have jo:=fun C1 V1 qZ (ZM:jd t pool tp pr n ls Fo V1)=>pQ (p:=p) (qs:=qs) (t:=t) (V:=V1) (hV:=ZM) (ok:=ok) (R:=R1.run (oA n ls u)) (C:=C1) (hC:=qZ) (ho:=ZL.run _) (hall:=hall)
 rw [wv Qp] at IE
 rw [wv (Qp.run _)] at jo
 refine st Tryz.func76 fun w0 => ?_
 refine ga ?_;intro b3
 refine gc tc ?_
 rintro _ _ (⟨hx, -⟩ | ⟨-,ad,c,D,rfl,hD,rfl⟩)
 ·rw [bW.2] at hx;cases hx
 refine gc (hlw D ad c hD.rd (by have:=hD.dL;omega)) ?_
 rintro _ _ ⟨C1,V1,rfl,qZ,ZM,rfl⟩
 refine gc (IE C1 V1 qZ ZM) ?_
 rintro _ _ ⟨C2,rfl,BY,rfl⟩
 refine gc (jo C2 V1 BY ZM) ?_
 rintro _ _ ⟨C3,rfl,ka,rfl⟩
 refine gz ?_
 exact fin ⟨rfl,C3,V1,ka,ZM,rfl⟩ aa
end
end Go.Proofs.YtcfioaeamfappaaGreatDoor
