/-
  Texts put together (15).
-/
import Derived.Test.YteldablklnfblaaGreatDoorZTopTwice14
namespace Go.Sl
theorem Qw (pr:Bool){w n:Nat}(hw:1<=w/\w<=5)(hn:324<=n/\n<=2048):bD pr w n<=10240:=(iB pr hw hn).2
section
variable {qs:List Nat}{pr:Bool}{ls:List (Option Lv)}{n gt:Nat}{P P':PS}{b:List UInt8}{pt:Pt}{c:Nat}
theorem l8.pok (h:l8 pr ls n gt P b P' pt)(hz:bD pr ls.length n<=10240)(hb:b.length<=1024)(hg:1<=gt/\gt<=281474976710656):fB pt=0/\pt.Ok:=by
 rcases h with ⟨-, -,rfl⟩ | ⟨dr,k, -,hk,rfl, -⟩
 ·exact ⟨by simp [fB],dx⟩
 ·have CV:1<=b.length:=by
   cases b with
   | nil=>cases dr
   | cons _ _=>simp
  rw [Int.add_mul,Int.one_mul,<-Int.natCast_mul] at hk
  obtain ⟨-,h2,h3, -⟩:=Qv (at_:=k*aN pr ls.length 1024) (gt:=gt) (b:=b) oZ ⟨CV,hb⟩ hg
  exact ⟨h3,h2⟩
end
def qu (pr:Bool)(ls:List (Option Lv))(n gt:Nat)(P P':PS)(l idx:List Pt)(root:Pt):Prop :=
 (l=[]/\P'=P/\idx=[]/\root=ah)\/(l≠[]/\∃level P1,jZ pr ls n gt P (kI l) P1 level/\l8 pr ls n gt P1 (eg (fS level)) P' root/\idx=level++[root])
def xk (N:Nat):Nat:=if N=0 then 0 else cY N 16+1
theorem ZT (N:Nat):(cY N 16=0/\xk N=0)\/(1<=cY N 16/\xk N=cY N 16+1):=by
 unfold xk
 split
 ·subst N;exact .inl ⟨rfl,rfl⟩
 ·exact .inr ⟨by unfold cY;omega,rfl⟩
theorem Qx {M N:Nat}(h:M<=N):xk M<=xk N:=by
 unfold xk cY
 split <;> split <;> omega
theorem rV (l:List Pt):(kI l).length=cY l.length 16:=by rw [kI,List.length_map,dA]
theorem mU (b:List UInt8):(eg b).length<=b.length:=by unfold eg;split <;> simp
theorem Ew {l:List Pt}:∀b∈kI l,b.length<=1024:=fun b hb=>by
 obtain ⟨g,hg,rfl⟩:=List.mem_map.1 hb
 have h1:=mU (fS g)
 have h2:=ju g
 obtain ⟨i,hi,rfl⟩:=List.getElem_of_mem hg
 rw [lB] at *
 rw [List.length_take] at h2
 omega
theorem jZ.len {pr:Bool}{ls:List (Option Lv)}{n gt:Nat}{P P':PS}{bs:List (List UInt8)}{ps:List Pt}(h:jZ pr ls n gt P bs P' ps):ps.length=bs.length:=by
 induction h with
 | nil=>rfl
 | snoc _ _ ih=>simp [ih]
theorem jZ.UK {pr:Bool}{ls:List (Option Lv)}{n gt:Nat}{P P':PS}{bs:List (List UInt8)}{ps:List Pt}(h:jZ pr ls n gt P bs P' ps)(hb:bs=[]):P'=P:=by
 cases h with
 | nil=>rfl
 | snoc _ _=>simp at hb
theorem Ly {l:List Pt}(h1:1<=l.length)(h2:l.length<=16):kI l=[eg (fS l)]:=by
 have hn:cY l.length 16=1:=oC oZ oZ
 unfold kI jt
 rw [hn]
 simp [kH,List.take_of_length_le h2]
end Go.Sl
namespace Go.Proofs.YteldablklnfblaaGreatDoor
open Go.Sl
set_option maxRecDepth 10000
set_option maxHeartbeats 4000000
section
variable (T:TypeId)(fr:Nat×Nat)(p:Nat)(qs:List Nat)(t pool:Nat)(tp:Tp)(pr:Bool)(n:Nat)(ls:List (Option Lv))(no:Nat)(V:Chunk)(hV:jb t pool tp pr n ls no V)(ok:dK tp pr n ls.length)(dE:n<=2048)(hall:∀x∈ls,x≠none)
variable (s al:Nat)(ra rd txg note:Nat)(g gt:Nat)(ic:1<=gt/\gt<=281474976710656)
include hV ok dE hall ic
theorem ZU (P:PS)(c:Nat)(l:List Pt)(N:Nat)(hl:l.length=N)(hN:N<=64)(mw:∀x∈l,fB x=0/\x.Ok)(hP:jF qs pr ls n P (c+xk N))(G C Al:Chunk)(hG:rQ g s gt ((aN pr ls.length 1024:Nat):Int) P.ks G)(hC:bq p qs P.R C)(hA:pd al ((bD pr ls.length n:Nat):Int) ((aN pr ls.length 1024:Nat):Int) P.x Al)(O:Chunk)(ad:Option Addr)(cO:Nat)(hO:Rd O 9 (.slice ad N cO) N (aO l))(hc:N<=cO) :
  Ct 218 [ptr g,.slice ad N cO,.func (.func 217) #[ptr g] #[]] [G,[(s,bR t (ptr al) ra rd txg note)],gK T fr,C,V,Al,O] fun u Bs=>∃P' idx root adX cX DX,qu pr ls n gt P P' l idx root/\jF qs pr ls n P' c/\u = .tuple #[.slice adX idx.length cX,root.agg,.int .i64 0]/\az DX 108 9 (.slice adX idx.length cX) idx.length (aO idx) /\
   ∃G' C' jN,rQ g s gt ((aN pr ls.length 1024:Nat):Int) P'.ks G'/\bq p qs P'.R C'/\pd al ((bD pr ls.length n:Nat):Int) ((aN pr ls.length 1024:Nat):Int) P'.x jN/\Bs=[G',[(s,bR t (ptr al) ra rd txg note)],gK T fr,C',V,jN,O,DX]:=by
 have hz:=Qw pr ok.hw ⟨ok.hn.1,dE⟩
 have bL:=fun P c hP G C Al hG hC hA b L hL K9 O v hO=>Ji T fr p qs t pool tp pr n ls no V hV ok dE hall s al ra rd txg note g gt ic P c hP G C Al hG hC hA b L hL K9 O v hO
 have Bo:cY N 16<=4:=by unfold cY;omega
 have Fp:=rV l
 rw [hl] at Fp
 have Xa:=Ou O ad N cO l hl hO hc oZ mw
 refine st Tryz.func218 fun w0 => ?_
 refine ga ?_;intro b7
 refine gc Xa ?_
 rintro _ _ ⟨iK,c1,vs,D0,V0,rfl,Fo,Tt,rfl⟩
 have u9:=Fo.rd
 have hov:=ZT N
 obtain ⟨e,he⟩:∃e,e=xk N:=⟨_,rfl⟩
 obtain ⟨nb,ab1⟩:∃nb,nb=cY N 16:=⟨_,rfl⟩
 rw [<-he] at hov hP
 rw [<-ab1] at Bo Fp Fo u9 hov ⊢
 refine gl [0,2,7,27,28] (fun ((i,v11,_):Nat×Value×List Pt×PS×Chunk×Chunk×Chunk×Chunk)=>[(29,.int .i64 i),(11,v11)]) (fun (_,_,_,_,G,C,Al,D)=>[G,C,Al,D]) (fun (i,v11,lv,P1,G,C,Al,D)=>i<=nb/\jZ pr ls n gt P ((kI l).take i) P1 lv/\jF qs pr ls n P1 (c+(e - i))/\rQ g s gt ((aN pr ls.length 1024:Nat):Int) P1.ks G/\bq p qs P1.R C/\pd al ((bD pr ls.length n:Nat):Int) ((aN pr ls.length 1024:Nat):Int) P1.x Al/\(∃ad c,v11 = .slice ad i c)/\az D 108 9 v11 i (aO lv)/\∀x∈lv,fB x=0/\x.Ok) (fun (i,_)=>nb - i) (0,.slice none 0 0,[],P,G,C,Al,[]) ⟨by omega,.nil,hP,hG,hC,hA,⟨none,0,rfl⟩,az.nil _ _,fun _ h=>by cases h⟩ ?_
 clear hG hC hA hP Xa
 rintro ⟨i,v11,lv,P1,G,C,Al,D⟩ ⟨hi,hpr,Sf,hG,hC,hA,⟨aeA,c11,rfl⟩,hD,wh⟩
 have aeB:=hpr.len
 rw [List.length_take] at aeB
 refine gi ?_ ?_ <;> intro bo
 ·have bm:i<(kI l).length:=by omega
  obtain ⟨v,YM,xz⟩:=Tt.rd bm
  have Mc:=Ew _ (List.getElem_mem bm)
  obtain ⟨g1,o1,rfl⟩:=u9.addr oZ
  have xM:jF qs pr ls n P1 (c+(e - (i+1))+1):=by rw [show c+(e - (i+1))+1=c+(e - i) by omega];exact Sf
  have td:=bL P1 _ xM G C Al hG hC hA (kI l)[i] _ rfl Mc V0 v xz
  obtain ⟨j8,cv,rfl⟩:=xz.slice
  refine gc td ?_
  rintro _ _ ⟨P2,pt,lS,rfl,G',C',jN,xE,bA,dY,rfl⟩
  have Jj:=lS.ok ok.hw ok.hp Mc xM
  have ab2:=lS.pok hz Mc ic
  refine ga ?_;intro b14
  refine gm ?_;intro b45
  refine gp ?_;intro aeC c12 D12 aeD
  refine gn ?_
  refine ⟨(i+1,_,lv++[pt],P2,G',C',jN,D12),⟨by omega,by rw [gX bm];exact .snoc hpr lS,Jj,xE,bA,dY,⟨aeC,c12,rfl⟩,by simpa [aO,Pt.lay] using aeD,fun x hx => ?_⟩,by simp only;omega,aq,_,aa⟩
  rcases List.mem_append.1 hx with hx | hx
  ·exact wh x hx
  ·rw [List.mem_singleton.1 hx];exact ab2
 ·obtain rfl:i=nb:=by omega
  rw [List.take_of_length_le oZ] at hpr
  have ZV:lv.length=i:=by have:=hpr.len;omega
  have ZW:=Ou D aeA i c11 lv ZV hD.rd (by have:=hD.dN;omega) oZ wh
  refine gc ZW ?_
  rintro _ _ ⟨ad2,c2,vs2,D2,V2,rfl,Ci,hV2,rfl⟩
  by_cases h0:i=0
  ·subst h0
   have Km:l=[]:=List.eq_nil_of_length_eq_zero (by unfold cY at ab1;omega)
   have aeE:lv=[]:=List.eq_nil_of_length_eq_zero ZV
   subst Km aeE
   have hPP:P1=P:=hpr.UK rfl
   subst hPP
   refine gz ?_
   exact fin ⟨P1,[],ah,none,0,[],.inl ⟨rfl,rfl,rfl,rfl⟩,⟨Sf.on,Sf.lv,by have:=Sf.ws;omega,by have:=Sf.rm;omega,by have:=Sf.ks;omega⟩,rfl,az.nil _ _,G,C,Al,hG,hC,hA,rfl⟩ aa
  ·have Mq:cY i 16=1:=oC oZ oZ
   rw [Mq] at Ci
   rw [Mq]
   have fG:=Ly (l:=lv) oZ oZ
   rw [fG] at hV2
   obtain ⟨v,YM,xz⟩:=hV2.rd (i:=0) (by simp)
   have Mc:(eg (fS lv)).length<=1024:=by have:=mU (fS lv);rw [ju] at this;omega
   have aeF:=Ci.rd
   obtain ⟨g2,o2,rfl⟩:=aeF.addr oZ
   have xM:jF qs pr ls n P1 (c+1):=by rw [show c+1=c+(e - i) by omega];exact Sf
   have td:=bL P1 _ xM G C Al hG hC hA (eg (fS lv)) _ rfl Mc V2 v xz
   obtain ⟨j8,cv,rfl⟩:=xz.slice
   refine gc td ?_
   rintro _ _ ⟨P2,pt,lS,rfl,G',C',jN,xE,bA,dY,rfl⟩
   have Jj:=lS.ok ok.hw ok.hp Mc xM
   refine ga ?_;intro b17
   refine qM [[(b17,ax pt.lay 108)]] [0,4,16,9,13,20,27,30] ?_
   refine gm ?_;intro b76
   refine gp ?_;intro adX cX DX hDX
   have tt:l≠[]:=fun h=>by subst h;simp [kI,jt,cY,kH] at Fp;omega
   have hix:(lv++[pt]).length=i+1:=by simp [ZV]
   refine gz ?_
   exact fin ⟨P2,lv++[pt],pt,adX,cX,DX,.inr ⟨tt,lv,P1,hpr,lS,rfl⟩,Jj,by rw [hix],by rw [hix];simpa [aO,Pt.lay] using hDX,G',C',jN,xE,bA,dY,rfl⟩ aa
end
end Go.Proofs.YteldablklnfblaaGreatDoor
namespace Go.Sl
def oR (l:List Pt)(k:Nat):List Pt:=l++List.replicate (k+1 - l.length) ah
theorem Ex (l:List Pt)(k:Nat):(oR l k).length=max l.length (k+1):=by simp [oR];omega
theorem Lz {l:List Pt}{k:Nat}(h:l.length<=k):oR l k=oR (l++[ah]) k:=by
 unfold oR
 rw [List.length_append,List.append_assoc]
 congr 1
 rw [show k+1 - l.length=(k+1 - (l.length+[ah].length))+1 by simp;omega,List.replicate_succ];rfl
theorem LB {l:List Pt}{k:Nat}(h:k<l.length):oR l k=l:=by unfold oR;rw [show k+1 - l.length=0 by omega];simp
inductive MI (pr:Bool)(ls:List (Option Lv))(n gt:Nat)(fresh:List (Int×List UInt8))(P:PS)(l0:List Pt):List Int->PS->List Pt->Prop
 | nil:MI pr ls n gt fresh P l0 [] P l0
 | snoc {ks:List Int} {P1 P2:PS} {l1:List Pt} {k:Int} {b:List UInt8} {pt:Pt}:MI pr ls n gt fresh P l0 ks P1 l1->aH fresh k=some b->l8 pr ls n gt P1 b P2 pt->MI pr ls n gt fresh P l0 (ks++[k]) P2 ((oR l1 k.toNat).set k.toNat pt)
theorem Ey (l:List Pt):∀u∈l.flatMap Pt.lay,u.oneCell'=true:=fun u hu=>by
 obtain ⟨x, -,hx⟩:=List.mem_flatMap.1 hu
 simp only [Pt.lay,List.mem_cons,List.not_mem_nil,or_false] at hx
 rcases hx with rfl | rfl | rfl | rfl | rfl | rfl | rfl | rfl | rfl <;> rfl
def wF (pr:Bool)(ls:List (Option Lv))(n gt:Nat)(P:PS)(o:Ob)(P':PS)(o':Ob):Prop :=
 ∃ks P1 l1 idx root,ks.Perm (o.fresh.map (·.1))/\ks.Pairwise (· <= ·)/\MI pr ls n gt o.fresh P o.ay ks P1 l1/\qu pr ls n gt P1 P' l1 idx root/\o'={ o with root:=root,ay:=l1,index:=idx,fresh:=[],clean:=true }
theorem jF.le {qs:List Nat}{pr:Bool}{ls:List (Option Lv)}{n:Nat}{P:PS}{c d:Nat}(h:jF qs pr ls n P d)(hcd:c<=d):jF qs pr ls n P c :=
 ⟨h.on,h.lv,by have:=h.ws;omega,by have:=h.rm;omega,by have:=h.ks;omega⟩
section
variable {X:Cx}{f:Fx}{ops:List Oper}{k:Kt}{Ms Ls Rs:List Chunk}{κ:Nat}{r':aA}{e:Env}
structure EP {α:Type}(lay:α->List Value)(_y0:α)(_xs:List α)(_i:Nat)(s:Nat):Prop where
 h:∀a,(lay a).length=s
theorem WD.Qy {α:Type}{lay:α->List Value}{y0:α}{xs:List α}{vs r:List Value}{b i j s:Nat}{t T:TypeId}{x y:Operand}(hl:EP lay y0 xs i s)(hκ:dD κ=true)(hx:ev e x=some (.pointer (some ⟨b,j,none⟩)))(hy:ev e y=some (.agg vs.toArray))(hv:vs=lay y0)(hvl:vs.length=s)(h1:vs.all (·.oneCell')=true)(hT:X.T.Ok X.P)(hs:X.T.sz t=some s)(hp:Ls.Perm ([(b,ax (xs.flatMap lay++r) T)] :: Rs))(hi:i<xs.length)(hj:j=i*s)
  (hk:cM κ Ms ([(b,ax ((xs.set i y0).flatMap lay++r) T)] :: Rs)) (g:WO X f ops k Ms r' e ([(b,ax ((xs.set i y0).flatMap lay++r) T)] :: Rs)):WD X f ops k Ms κ none (.store t x y) r' e Ls:=by
 subst hvl hj
 have hl:=hl.h
 have hlen:(xs.flatMap lay).length=xs.length*vs.length:=fN hl
 have hm:i*vs.length+vs.length<=xs.length*vs.length:=by
  have:=Nat.mul_le_mul_right vs.length (show i+1<=xs.length from hi)
  rwa [Nat.succ_mul] at this
 refine .zu hκ hx hy h1 hT hs hp (by rw [List.length_append];omega) ?_ hk g
 rw [rf _ _ _ (by rw [List.length_append];omega),BJ hl y0 xs i hi,<-hv,List.take_append_of_le_length oZ,List.drop_append_of_le_length oZ,List.append_assoc,List.append_assoc,List.append_assoc]
end
end Go.Sl
namespace Go.Proofs.YteldablklnfblaaGreatDoor
open Go.Sl
set_option maxRecDepth 10000
set_option maxHeartbeats 4000000
theorem gse {G H:Prop}{α:Type}(lay:α->List Value)(y0:α)(xs:List α)(i:Nat)(s:Nat)(hs:∀a,(lay a).length=s)(k:H)(h:EP lay y0 xs i s->gG H->G:=by
 intro hs kk;refine go ?_;refine WO.dec rfl ?_
 apply WD.Qy hs;exact rfl;exact rfl;exact rfl;exact rfl;exact rfl;exact rfl;exact aB;exact rfl;exact pick;exact om;exact om;exact keeps;exact kk.out):G:=h ⟨hs⟩ ⟨k⟩
section
variable (T:TypeId)(fr:Nat×Nat)(p:Nat)(qs:List Nat)(t pool:Nat)(tp:Tp)(pr:Bool)(n:Nat)(ls:List (Option Lv))(no:Nat)(V:Chunk)(hV:jb t pool tp pr n ls no V)(ok:dK tp pr n ls.length)(dE:n<=2048)(hall:∀x∈ls,x≠none)
variable (s al:Nat)(ra rd txg note:Nat)(g gt:Nat)(ic:1<=gt/\gt<=281474976710656)
include hV ok dE hall ic
theorem Qz (P:PS)(c:Nat)(a:Nat)(o:Ob)(A:Chunk)(By:WZ a o A)(qO:o.clean=false)(NL:Nat)(ZX:NL<=64)(hP:jF qs pr ls n P (c+xk NL+o.fresh.length))(hkb:∀e∈o.fresh,0<=e.1/\e.1<NL/\e.2.length<=1024)(jH:o.fresh.length<=64)(mw:o.ay.length<=NL)(tG:∀x∈o.ay,fB x=0/\x.Ok)(G C Al:Chunk)(hG:rQ g s gt ((aN pr ls.length 1024:Nat):Int) P.ks G)(hC:bq p qs P.R C)(hA:pd al ((bD pr ls.length n:Nat):Int) ((aN pr ls.length 1024:Nat):Int) P.x Al) :
  Ct 160 [ptr g,ptr a] [G,[(s,bR t (ptr al) ra rd txg note)],gK T fr,C,V,Al,A] fun u Bs=>∃P' a' o' A',wF pr ls n gt P o P' o'/\jF qs pr ls n P' c/\WZ a' o' A'/\u = .tuple #[ptr a',.int .i64 0] /\
   ∃G' C' jN,rQ g s gt ((aN pr ls.length 1024:Nat):Int) P'.ks G'/\bq p qs P'.R C'/\pd al ((bD pr ls.length n:Nat):Int) ((aN pr ls.length 1024:Nat):Int) P'.x jN/\Bs=[G',[(s,bR t (ptr al) ra rd txg note)],gK T fr,C',V,jN,A,A']:=by
 have hz:=Qw pr ok.hw ⟨ok.hn.1,dE⟩
 have bL:=fun P c hP G C Al hG hC hA b L hL K9 O v hO=>Ji T fr p qs t pool tp pr n ls no V hV ok dE hall s al ra rd txg note g gt ic P c hP G C Al hG hC hA b L hL K9 O v hO
 obtain ⟨jl,cP,DP,dQ,cI,DX,r,LF,CF,VF,UL,AD,hM,hF,rfl⟩:=By
 have FC:=hF.keys
 have hLF:LF.length=o.fresh.length:=by have:=congrArg List.length FC;simpa using this.symm
 have ek:=hM.nodup
 refine st Tryz.func160 fun w0 => ?_
 rw [qO]
 refine gs ?_
 refine uM .i64 ?_;intro r6 C6 h6
 refine ga ?_;intro a'
 refine gc (ep DP jl o.ay.length cP _ UL.rd oZ) ?_
 rintro _ _ ⟨iK,c1,D1,rfl,Bq,rfl⟩
 refine gc (Tb r) ?_
 rintro _ _ ⟨bk,rfl,rfl⟩
 refine gc (NS bk r LF CF hM oZ) ?_
 rintro _ _ ⟨kl,adK,cK,DK,I6,aeG,rfl,hDK,rfl⟩
 have ZY:=hDK.rd
 have lY:kl.length=LF.length:=by have:=I6.length_eq;simpa using this
 refine gl [0,1,6,37,38] (fun ((i,_):Nat×List Pt×Option Addr×Nat×Chunk×PS×Chunk×Chunk×Chunk)=>[(39,.int .i64 i)]) (fun (_,l1,iK,c1,D1,P1,G,C,Al)=>[[(a',xF o.used o.size o.root (.slice iK l1.length c1) (.slice none 0 0) r6 true)],D1,G,C,Al]) (fun (i,l1,iK,c1,D1,P1,G,C,Al)=>i<=kl.length/\az D1 108 9 (.slice iK l1.length c1) l1.length (aO l1)/\l1.length<=NL/\(∀x∈l1,fB x=0/\x.Ok)/\MI pr ls n gt o.fresh P o.ay (kl.take i) P1 l1/\jF qs pr ls n P1 (c+xk NL+(o.fresh.length - i))/\rQ g s gt ((aN pr ls.length 1024:Nat):Int) P1.ks G/\bq p qs P1.R C/\pd al ((bD pr ls.length n:Nat):Int) ((aN pr ls.length 1024:Nat):Int) P1.x Al) (fun (i,_)=>kl.length - i) (0,o.ay,iK,c1,D1,P,G,C,Al) ⟨by omega,Bq,mw,tG,.nil,hP,hG,hC,hA⟩ ?_
 clear Bq hP hG hC hA
 rintro ⟨i,l1,iK,c1,D1,P1,G,C,Al⟩ ⟨hi,Bq,tt,QA,pg,Sf,hG,hC,hA⟩
 refine gi ?_ ?_ <;> intro bo
 ·have bm:i<kl.length:=by omega
  obtain ⟨kz,jE⟩:∃kz,kz=kl[i]:=⟨_,rfl⟩
  have Sa:(ints kl)[i]? = some (.int .i64 kz):=by rw [jE];simp [ints,bm]
  have hkm:kz∈LF.map (·.1):=I6.mem_iff.1 (by rw [jE];exact List.getElem_mem _)
  rcases hF.look kz with ⟨e1,e2, -⟩ | ⟨v9,b9,U1,D9,U2,e1,e2,rfl,FD, -, -⟩
  ·exact absurd (by rw [FC];exact hkm) (qc e2)
  ·have ZZ:=hkb _ (aI e2)
   obtain ⟨k,rfl⟩:∃k:Nat,kz=k:=⟨kz.toNat,by have:=ZZ.1;simp only at this;omega⟩
   have QB:k<NL:=by have:=ZZ.2.1;simp only at this;omega
   have hb9:b9.length<=1024:=ZZ.2.2
   have G8:az D9 5 1 v9 b9.length (ak b9):=FD
   obtain ⟨MF,c9,rfl⟩:=G8.slice
   obtain ⟨gK_,oK_,rfl⟩:=ZY.addr oZ
   refine gs ?_
   refine gl [0,1,6,8,37,38,39] (fun (_:List Pt×Option Addr×Nat×Chunk)=>[]) (fun (l2,ad2,c2,D2)=>[[(a',xF o.used o.size o.root (.slice ad2 l2.length c2) (.slice none 0 0) r6 true)],D2]) (fun (l2,ad2,c2,D2)=>az D2 108 9 (.slice ad2 l2.length c2) l2.length (aO l2)/\l2.length<=NL/\(∀x∈l2,fB x=0/\x.Ok)/\oR l2 k=oR l1 k) (fun (l2,_)=>64 - l2.length) (l1,iK,c1,D1) ⟨Bq,tt,QA,rfl⟩ ?_
   clear Bq
   rintro ⟨l2,ad2,c2,D2⟩ ⟨Ci,jj,ab3,Z3⟩
   refine gi ?_ ?_ <;> intro hlen
   ·refine gm ?_;intro b56
    refine gp ?_;intro fL c3 D3 YL
    have hl3:(l2++[ah]).length=l2.length+1:=by simp
    refine gn ?_
    refine ⟨(l2++[ah],fL,c3,D3),⟨by rw [hl3];simpa [aO,Pt.lay,ah] using YL,by omega,fun x hx => ?_,by rw [<-Z3];exact (Lz oZ).symm⟩,by simp only;omega,aq,_,(by simp only [hl3];exact aa)⟩
    rcases List.mem_append.1 hx with hx | hx
    ·exact ab3 x hx
    ·rw [List.mem_singleton.1 hx];exact ⟨by simp [fB],dx⟩
   ·have gN:k<l2.length:=by omega
    rw [LB gN] at Z3
    have xM:jF qs pr ls n P1 (c+xk NL+(o.fresh.length - (i+1))+1):=Sf.le oZ
    have td:=bL P1 _ xM G C Al hG hC hA b9 _ rfl hb9 D9 _ G8.rd
    obtain ⟨gP,cP2,rP,hvP,rfl,aeH,aeI,aeJ⟩:=Ci.opened oZ
    cases hvP
    refine gs ?_
    refine gc td ?_
    rintro _ _ ⟨P2,pt,lS,rfl,G',C',jN,xE,bA,dY,rfl⟩
    refine ga ?_;intro b9_
    refine gse Pt.lay pt l2 k 9 (fun _=>rfl) ?_
    have fm:(l2.set k pt).length=l2.length:=List.length_set ..
    refine gn ?_
    refine ⟨(i+1,l2.set k pt,some ⟨gP,0,none⟩,c2,_,P2,G',C',jN),⟨by omega,by rw [fm];exact ⟨by rw [fN (lay:=Pt.lay) (s:=9) (fun _=>rfl),fm],Ey _,.inr ⟨gP,c2,rP,rfl,rfl,aeH,aeI,by rw [<-aeJ,fN (lay:=Pt.lay) (s:=9) (fun _=>rfl),fm,fN (lay:=Pt.lay) (s:=9) (fun _=>rfl)]⟩⟩,by omega,fun x hx => ?_, ?_,lS.ok ok.hw ok.hp hb9 xM,xE,bA,dY⟩,by simp only;omega,aq,_,by simp only [fm];exact aa⟩
    ·rcases List.mem_or_eq_of_mem_set hx with hx | rfl
     ·exact ab3 x hx
     ·exact lS.pok hz hb9 ic
    ·rw [gX bm,<-jE,Z3]
     exact .snoc pg e2 lS
 ·obtain rfl:i=kl.length:=by omega
  rw [List.take_of_length_le oZ] at pg
  have xM:jF qs pr ls n P1 (c+xk l1.length):=Sf.le (by have:=Qx tt;omega)
  have hov:=ZU T fr p qs t pool tp pr n ls no V hV ok dE hall s al ra rd txg note g gt ic P1 c l1 l1.length rfl oZ QA xM G C Al hG hC hA D1 iK c1 Bq.rd Bq.dN
  refine gc hov ?_
  rintro _ _ ⟨P2,idx,root,adX,cX,DX',ab4,Jj,rfl,hDX,G',C',jN,xE,bA,dY,rfl⟩
  refine gz ?_
  exact fin ⟨P2,a',{ o with root:=root,ay:=l1,index:=idx,fresh:=[],clean:=true },_,⟨kl,P1,l1,idx,root,by rw [FC];exact I6,aeG,pg,ab4,rfl⟩,Jj,⟨iK,c1,D1,adX,cX,DX',r6,[],C6,[],Bq,hDX,h6,rfl,rfl⟩,rfl,G',C',jN,xE,bA,dY,rfl⟩ aa
end
end Go.Proofs.YteldablklnfblaaGreatDoor
namespace Go.Sl
def oV (ls:List (Value×List Pt)):Nat:=(ls.flatMap (·.2)).length
structure ab5 (O:Chunk)(ls:List (Value×List Pt)):Prop where
 rd:∀x∈ls,Rd O 9 x.1 x.2.length (aO x.2)
 sl:∀x∈ls,∃ad c,x.1 = .slice ad x.2.length c
 jY:ls.length<=100
 sum:oV ls<=100000
theorem mV (l:List (Value×List Pt)){i:Nat}(hi:i<l.length):oV (l.take (i+1))=oV (l.take i)+l[i].2.length:=by
 rw [aG l hi];simp only [oV,List.flatMap_append,List.length_append,List.flatMap_cons,List.flatMap_nil,List.append_nil]
theorem qv (l:List (Value×List Pt))(i:Nat):oV (l.take i)<=oV l:=by
 conv=>rhs;rw [<-List.take_append_drop i l]
 simp only [oV,List.flatMap_append,List.length_append]
 omega
theorem Z4 (x:Pt):(x.top==0&&(x.at_==0&&(x.bytes==0&&((x.bh:Int)==0&&(x.kind==0&&((x.a:Int)==0&&((x.b:Int)==0&&((x.c:Int)==0&&(x.d:Int)==0))))))))=decide (x=ah):=by
 cases x
 rw [Bool.eq_iff_iff]
 simp [ah]
def bH (l:List Pt):List Pt:=l.filter fun x=>decide (x≠ah)
theorem Hm {l:List Pt}{i:Nat}(hi:i<l.length):bH (l.take (i+1))=bH (l.take i)++if l[i]=ah then [] else [l[i]]:=by
 unfold bH
 rw [aG l hi,List.filter_append]
 by_cases h:l[i]=ah <;> simp [h]
end Go.Sl
namespace Go.Proofs.YteldablklnfblaaGreatDoor
open Go.Sl
set_option maxRecDepth 10000
set_option maxHeartbeats 4000000
theorem UM (m:Nat)(hm:m<=1000000):Ct 182 [.slice none 0 0,.int .i64 m] [] fun u Bs=>∃C,az C 108 9 u 0 []/\Bs=[C]:=by
 rcases Nat.eq_zero_or_pos m with rfl | h0
 ·refine st Tryz.func182 fun w0 => ?_
  refine gz ?_
  exact fin ⟨[],az.nil _ _,rfl⟩ aa
 ·refine st Tryz.func182 fun w0 => ?_
  refine gpz ?_;intro g c l hc lV hl
  refine gv ?_
  refine gz ?_
  exact fin ⟨_,uq lV hl,rfl⟩ aa
theorem LC (D O:Chunk)(vo:Value)(n:Nat)(ls:List (Value×List Pt))(hn:ls.length=n)(hD:Rd D 1 vo n (ls.map (·.1)))(hO:ab5 O ls) :
  Ct 126 [vo] [D,O] fun u Bs=>∃C,az C 108 9 u (oV ls) (aO (ls.flatMap (·.2)))/\Bs=[C,D,O]:=by
 subst hn
 obtain ⟨ad,c,rfl⟩:=hD.slice
 have nP:=hO.jY
 have aed:=hO.sum
 refine st Tryz.func126 fun w0 => ?_
 refine gl [0,9,10] (fun j:Nat=>[(11,.int .i64 j),(3,.int .i64 (oV (ls.take j):Nat))]) (fun _=>[]) (fun j=>j<=ls.length) (fun j=>ls.length - j) 0 oZ ?_
 intro j hj
 refine gi ?_ ?_ <;> intro bo
 ·have bm:j<ls.length:=by omega
  obtain ⟨b,off,rfl⟩:=hD.addr oZ
  obtain ⟨ad2,c2,TZ⟩:=hO.sl ls[j] (List.getElem_mem bm)
  have cw:=mV ls bm
  have fH:=qv ls (j+1)
  have bV:(ls.map (·.1))[j]? = some (.slice ad2 ls[j].2.length c2):=by simp [bm,TZ]
  have ha:IntKind.i64.wrap (((oV (ls.take j):Nat):Int)+(ls[j].2.length:Nat))=((oV (ls.take (j+1)):Nat):Int):=by rw [IntWalk.i64_in _ oZ];omega
  refine gn ?_
  exact ⟨j+1,by omega,by omega,aq,_,aa⟩
 ·obtain rfl:j=ls.length:=by omega
  rw [List.take_length]
  refine gc (UM (oV ls) oZ) ?_
  rintro v0 _ ⟨C,hC,rfl⟩
  refine gl [0,25,26] (fun ((j,v,_):Nat×Value×Chunk)=>[(27,.int .i64 j),(6,v)]) (fun (_,_,C)=>[C]) (fun (j,v,C)=>j<=ls.length/\az C 108 9 v (oV (ls.take j)) ((ls.take j).flatMap fun x=>aO x.2)) (fun (j,_)=>ls.length - j) (0,v0,C) ⟨by omega,hC⟩ ?_
  rintro ⟨j,v,C⟩ ⟨hj,hC⟩
  obtain ⟨j8,cv,rfl⟩:=hC.slice
  refine gi ?_ ?_ <;> intro bo
  ·have bm:j<ls.length:=by omega
   obtain ⟨b,off,rfl⟩:=hD.addr oZ
   obtain ⟨ad2,c2,TZ⟩:=hO.sl ls[j] (List.getElem_mem bm)
   have cw:=mV ls bm
   have fH:=qv ls (j+1)
   have hft:=mJ (fun x:Value×List Pt=>aO x.2) ls bm
   have pc:=hO.rd ls[j] (List.getElem_mem bm)
   rw [TZ] at pc
   have bV:(ls.map (·.1))[j]? = some (.slice ad2 ls[j].2.length c2):=by simp [bm,TZ]
   refine gp ?_;intro fL c3 C3 km
   rw [<-cw]
   rw [<-cw,<-hft] at km
   refine gn ?_
   exact ⟨(j+1,_,C3),⟨by omega,km⟩,by simp only;omega,aq,_,aa⟩
  ·obtain rfl:j=ls.length:=by omega
   rw [List.take_length] at hC ⊢
   refine gz ?_
   exact fin ⟨C,by rw [aO,List.flatMap_assoc];exact hC,rfl⟩ aa
theorem tQ (a:Nat)(o:Ob)(jl:Option Addr)(cP:Nat)(DP:Chunk)(dQ:Option Addr)(cI:Nat)(DX:Chunk)(r:Nat)(UL:az DP 108 9 (.slice jl o.ay.length cP) o.ay.length (aO o.ay))(AD:az DX 108 9 (.slice dQ o.index.length cI) o.index.length (aO o.index))(h1:o.ay.length<=100)(h2:o.index.length<=100):Ct 69 [ptr a] [[(a,xF o.used o.size o.root (.slice jl o.ay.length cP) (.slice dQ o.index.length cI) r o.clean)],DP,DX] fun u Bs=>∃ad c D,u = .slice ad (bH (o.ay++o.index)).length c/\az D 108 9 (.slice ad (bH (o.ay++o.index)).length c) (bH (o.ay++o.index)).length (aO (bH (o.ay++o.index)))/\Bs=[D,[(a,xF o.used o.size o.root (.slice jl o.ay.length cP) (.slice dQ o.index.length cI) r o.clean)],DP,DX]:=by
 have hS:ab5 (DP++DX) [(.slice jl o.ay.length cP,o.ay),(.slice dQ o.index.length cI,o.index)]:=by
  refine ⟨fun x hx => ?_,fun x hx => ?_,by simp,by simp [oV];omega⟩
  ·rcases List.mem_cons.1 hx with rfl | hx
   ·exact UL.rd.sub fun y hy=>List.mem_append_left _ hy
   ·obtain rfl:=List.mem_singleton.1 hx
    exact AD.rd.sub fun y hy=>List.mem_append_right _ hy
  ·rcases List.mem_cons.1 hx with rfl | hx
   ·exact ⟨_,_,rfl⟩
   ·obtain rfl:=List.mem_singleton.1 hx
    exact ⟨_,_,rfl⟩
 refine st Tryz.func69 fun w0 => ?_
 refine qM [[(a,xF o.used o.size o.root (.slice jl o.ay.length cP) (.slice dQ o.index.length cI) r o.clean)]] [0,4,8,12,16,20,24,28,46,33,39,42] ?_
 refine gm ?_;intro b14
 refine gc (LC _ (DP++DX) _ 2 [(.slice jl o.ay.length cP,o.ay),(.slice dQ o.index.length cI,o.index)] rfl (av rfl (by simp [Value.oneCell']) (by simp [maxLen]) _) hS) ?_
 rintro u _ ⟨D0,Fo,rfl⟩
 refine gs ?_
 have jH:([(Value.slice jl o.ay.length cP,o.ay),(Value.slice dQ o.index.length cI,o.index)].flatMap (·.2))=o.ay++o.index:=by simp
 obtain ⟨L,hL⟩:∃L,L=o.ay++o.index:=⟨_,rfl⟩
 have hLl:L.length<=200:=by rw [hL,List.length_append];omega
 rw [oV,jH,<-hL] at Fo
 rw [<-hL]
 have u9:=Fo.rd
 obtain ⟨RY,c0,rfl⟩:=u9.slice
 refine gl [0,15,16] (fun ((i,fL,c3,_):Nat×Option Addr×Nat×Chunk)=>[(17,.int .i64 i),(3,.slice fL (bH (L.take i)).length c3)]) (fun (_,_,_,D)=>[D]) (fun (i,fL,c3,D)=>i<=L.length/\az D 108 9 (.slice fL (bH (L.take i)).length c3) (bH (L.take i)).length (aO (bH (L.take i)))) (fun (i,_)=>L.length - i) (0,none,0,[]) ⟨by omega,az.nil _ _⟩ ?_
 rintro ⟨i,fL,c3,D⟩ ⟨hi,hD⟩
 refine gi ?_ ?_ <;> intro bo
 ·have bm:i<L.length:=by omega
  obtain ⟨g,off,rfl⟩:=u9.addr oZ
  have hs:=ar (lay:=Pt.lay) (s:=9) (fun _=>rfl) L i L[i] (by simp)
  have jk:=Hm bm
  refine ga ?_;intro b5
  refine go ?_
  rw [Z4]
  refine gi ?_ ?_ <;> intro hz
  ·have hnz:L[i]≠ah:=by simpa using hz
   rw [if_neg hnz] at jk
   have afn:(bH (L.take i)).length<=200:=by have:=List.length_filter_le (fun x=>decide (x≠ah)) (L.take i);rw [List.length_take] at this;unfold bH;omega
   refine gm ?_;intro b26
   refine gp ?_;intro pN c4 D4 hD4
   have hl4:(bH (L.take (i+1))).length=(bH (L.take i)).length+1:=by rw [jk];simp
   refine gn ?_
   exact ⟨(i+1,pN,c4,D4),⟨by omega,by rw [hl4,jk];simpa [aO,Pt.lay] using hD4⟩,by simp only;omega,by simp only [hl4];exact aq,_,by simp only [hl4];exact aa⟩
  ·have hnz:L[i]=ah:=by simpa using hz
   rw [if_pos hnz,List.append_nil] at jk
   refine gn ?_
   exact ⟨(i+1,fL,c3,D),⟨by omega,by rw [jk];exact hD⟩,by simp only;omega,by simp only [jk];exact aq,_,aa⟩
 ·obtain rfl:i=L.length:=by omega
  rw [List.take_length] at hD ⊢
  refine gz ?_
  exact fin ⟨fL,c3,D,rfl,hD,rfl⟩ aa
end Go.Proofs.YteldablklnfblaaGreatDoor
namespace Go.Sl
theorem wG {R:Rk}(h:R.on)(l:List Ev):(R.run l).off=false:=(h.run l).2
end Go.Sl
namespace Go.Proofs.YteldablklnfblaaGreatDoor
open Go.Sl
set_option maxRecDepth 10000
set_option maxHeartbeats 4000000
section
variable (T:TypeId)(fr:Nat×Nat)(p:Nat)(qs:List Nat)(t pool:Nat)(tp:Tp)(pr:Bool)(n:Nat)(ls:List (Option Lv))(no:Nat)(V:Chunk)(hV:jb t pool tp pr n ls no V)
include hV
theorem UN:Ct 101 [ptr t] [V] fun u Bs=>u = .int .u64 pool/\Bs=[V]:=by
 obtain ⟨m,M,fV,cT,DT,dQ,cI,DI,jX,cL,DL,oH,cl,Dl,vD,DD,L,hT,hI,xb,hl,hM,hL,rfl⟩:=hV
 refine st Tryz.func101 fun w0 => ?_
 refine gs ?_
 refine gz ?_
 exact fin ⟨rfl,rfl⟩ aa
variable (ok:dK tp pr n ls.length)(dE:n<=2048)(hall:∀x∈ls,x≠none)(R:Rk)(C:Chunk)(hC:bq p qs R C)(ho:dJ qs R n ls)(bZ:R.on)
variable (s:Nat)(vA:Value)(ra rd txg note:Nat)
include ok hall hC ho bZ
theorem Ez (x:Pt)(hx:fB x=0)(Ft:x.Ok)(dT:Nat)(yi:pool<18446744073709551616)(QC:dT<18446744073709551616)(AO:txg+1<=281474976710656)(hxb:x.bh<=txg+1)(hw:R.ws.length+80<=900000000000) :
  Ct 39 [ptr s,x.agg,.int .u64 dT] [[(s,bR t vA ra rd txg note)],gK T fr,C,V] fun u Bs=>u = .int .i64 0/\∃C',bq p qs ((R.run (oM n ls ⟨pool,txg+1,dT,x⟩)).run (iH ls)) C'/\Bs=[[(s,bR t vA ra rd (txg+1) dT)],gK T fr,C',V]:=by
 have tG:=UN t pool tp pr n ls no V hV
 have IX:=IZ T fr p qs t pool tp pr n ls no V hV ok R C hC ho hall ⟨pool,txg+1,dT,x⟩ (if_pos ⟨by simp only;omega,by simp only;omega,hx,hxb⟩) ⟨yi,by simp only;omega,QC,Ft⟩ rfl oZ
 rw [wG bZ] at IX
 have jH:=fun C' bA=>p3 (p:=p) (qs:=qs) (t:=t) (hV:=hV) (ok:=ok) (R:=R.run (oM n ls ⟨pool,txg+1,dT,x⟩)) (C:=C') (hC:=bA) (ho:=ho.run _) (hall:=hall)
 rw [wG (bZ.run _)] at jH
 have nL:IntKind.u64.wrap ((txg:Int)+1)=((txg+1:Nat):Int):=by rw [IntWalk.u64_in _ oZ];omega
 refine st Tryz.func39 fun w0 => ?_
 refine ga ?_;intro b4
 refine gdo (aA.cons (0,0) (aA.cons (1,0) (aA.cons (2,0) (aA.cons (3,0) (aA.cons (5,0) (aA.cons (6,0) (aA.cons (7,0) (aA.cons (8,0) (aA.cons (9,0) (aA.cons (10,0) (aA.cons (11,0) (aA.fork 4 (aA.y7 [(12,0),(13,1),(14,3)]) 13 (aA.y7 [(4,1),(12,0),(14,3)]))))))))))))) ?_
 refine gk ?_ ?_
 case' refine_2 =>
  refine ga ?_;intro b7
  refine gc tG ?_
  rintro _ _ ⟨rfl,rfl⟩
  refine go ?_
 case' refine_1 =>
  refine gc tG ?_
  rintro _ _ ⟨rfl,rfl⟩
  refine ga ?_;intro b7
  refine go ?_
 all_goals
  refine qM [[(s,bR t vA ra rd txg note)],[(b7,ax (⟨pool,txg+1,dT,x⟩:Ub).lay 110)]] [0,4,8,12,16,23,26] ?_
  refine gc IX ?_
  rintro _ _ ⟨C1,rfl,rp,rfl⟩
  refine gc (jH C1 rp) ?_
  rintro _ _ ⟨C2,rfl,Cu,rfl⟩
  refine gz ?_
  exact fin ⟨rfl,C2,Cu,rfl⟩ aa
end
end Go.Proofs.YteldablklnfblaaGreatDoor
namespace Go.Sl
def aM (m:Nat)(x:Pt):Nat:=(x.at_ / m).toNat
def br (g:Nat)(a:Rm)(m:Nat)(fs:List Pt):Rm:=fs.foldl (fun a x=>a.free g (aM m x)) a
theorem jd (g:Nat)(a:Rm)(m:Nat)(fs:List Pt)(x:Pt):br g a m (fs++[x])=(br g a m fs).free g (aM m x):=by simp [br]
def bc (d:List (Int×List Pt)):List Pt:=d.flatMap (·.2)
structure wH (m:Nat)(a:Rm)(od:List (Int×List Pt)):Prop where
 top:∀x∈bc od,x.top=0
 at_:∀x∈bc od,x.at_=(aM m x:Nat)*(m:Int)
 hd:∀x∈bc od,aM m x∈a.D
 wt:∀x∈bc od,aM m x∉a.W
 inj:∀x∈bc od,∀y∈bc od,aM m x=aM m y->x=y
structure kh (s m:Int)(mn:Nat)(g:Nat)(a:Rm)(fs:List Pt):Prop where
 ok:(br g a mn fs).Ok s m
 d:(br g a mn fs).D=a.D
 w:∀k∈(br g a mn fs).W,k∈a.W\/∃x∈fs,aM mn x=k
theorem kh.nil {s m:Int}{mn g:Nat}{a:Rm}(ha:a.Ok s m):kh s m mn g a []:=⟨ha,rfl,fun _ h=>.inl h⟩
theorem kh.snoc {s m:Int}{mn g:Nat}{a:Rm}{fs:List Pt}{x:Pt}{od:List (Int×List Pt)}(h:kh s m mn g a fs)(ho:wH mn a od)(hf:∀y∈fs,y∈bc od)(hx:x∈bc od)(hn:x∉fs) :
  aM mn x∈(br g a mn fs).D/\aM mn x∉(br g a mn fs).W/\kh s m mn g a (fs++[x]):=by
 have h1:aM mn x∈(br g a mn fs).D:=by rw [h.d];exact ho.hd x hx
 have h2:aM mn x∉(br g a mn fs).W:=fun hc=>by
  rcases h.w _ hc with hc | ⟨y,hy,e⟩
  ·exact ho.wt x hx hc
  ·exact hn (ho.inj y (hf y hy) x hx e ▸ hy)
 refine ⟨h1,h2, ?_, ?_,fun k hk => ?_⟩
 ·rw [jd];exact Rm.Ud h.ok g h1 h2
 ·rw [jd];exact h.d
 ·rw [jd] at hk
  have:=(Aq (br g a mn fs).fI g (aM mn x)).mem_iff.1 hk
  rcases List.mem_append.1 this with hk | hk
  ·rcases h.w k hk with h | ⟨y,hy,e⟩
   ·exact .inl h
   ·exact .inr ⟨y,List.mem_append_left _ hy,e⟩
  ·exact .inr ⟨x,by simp,(List.mem_singleton.1 hk).symm⟩
theorem wI {d:List (Int×List Pt)}{q:Int}{l:List Pt}(h:aH d q=some l):∀x∈l,x∈bc d:=fun x hx=>List.mem_flatMap.2 ⟨(q,l),aI h,hx⟩
theorem lK {β:Type}:∀ {M:List (Int×β)} {e:Int×β},(M.map (·.1)).Nodup->e∈M->aH M e.1=some e.2
 | x :: r,e,hn,h=>by
  rw [List.map_cons,List.nodup_cons] at hn
  rcases List.mem_cons.1 h with rfl | h
  ·simp [aH]
  ·have:x.1≠e.1:=fun c=>hn.1 (by rw [c];exact List.mem_map_of_mem h)
   have h2:=lK hn.2 h
   unfold aH at h2 ⊢
   rw [List.find?_cons_of_neg (by simpa using this)]
   exact h2
structure KU {α:Type}(_lay:α->List Value)(_u:α):Prop
section
variable {α:Type}[DecidableEq α]{lay:α->List Value}{u:α}{X:Cx}{f:Fx}{ops:List Oper}{k:Kt}{Ms Ls Rs:List Chunk}{κ:Nat}{r':aA}{e:Env}{x y z:Operand}{r d:Nat}{t kt et:TypeId}{L:List α}{C:Chunk}
theorem WD.aeK (_:KU lay u)(hκ:calm κ=true)(hx:ev e x=some (.map (some r)))(hy:ev e y=some (.agg (lay u).toArray))(hT:X.T.Ok X.P)(ht:mpA X.T t=some (kt,et))(hz:zv X.T et=some (.bool false))(hK:ri X.T X.P kt lay)(hC:Cc lay r L C)(hm:C∈zp κ Ms Ls)
  (g:WO X f ops k Ms r' ((d,.bool (decide (u∈L))) :: e) Ls):WD X f ops k Ms κ (some d) (.lookup t x y false) r' e Ls:=.lkS hκ hx hy hT ht hz hK hC hm g
theorem WD.Z5 (_:KU lay u)(hκ:dD κ=true)(hx:ev e x=some (.map (some r)))(hy:ev e y=some (.agg (lay u).toArray))(hz:ev e z=some (.bool true))(hT:X.T.Ok X.P)(ht:mpA X.T t=some (kt,et))(hK:ri X.T X.P kt lay)(hC:Cc lay r L C)(hp:Ls.Perm (C :: Rs))
  (hM:cM κ Ms Rs) (g:∀C',Cc lay r (if u∈L then L else L++[u]) C'->WO X f ops k Ms r' e (C' :: Rs)):WD X f ops k Ms κ none (.mapUpdate t x y z) r' e Ls:=.abd hκ hx hy hz hT ht hK hC hp hM g
end
end Go.Sl
namespace Go.Proofs.YteldablklnfblaaGreatDoor
open Go.Sl
set_option maxRecDepth 10000
set_option maxHeartbeats 4000000
theorem glu {G H:Prop}{α:Type}(lay:α->List Value)(u:α)(k:H)(h:KU lay u->gG H->G:=by
 intro ku kk;refine go ?_;refine WO.dec rfl ?_
 apply WD.aeK ku;exact rfl;exact rfl;exact rfl;exact aB;exact rfl;exact rfl;assumption;assumption;exact mem;exact kk.out):G:=h ⟨⟩ ⟨k⟩
theorem guu {G H:Prop}{α:Type}(lay:α->List Value)(u:α)(k:H)(h:KU lay u->gG H->G:=by
 intro ku kk;refine go ?_;refine WO.dec rfl ?_
 apply WD.Z5 ku;exact rfl;exact rfl;exact rfl;exact rfl;exact aB;exact rfl;assumption;assumption;exact pick;exact keeps;exact kk.out):G:=h ⟨⟩ ⟨k⟩
theorem Xb:ri JY Tryz.prog 108 Pt.lay where
 eq:=fun x y=>by
  have:X7 JY 8 108 (Pt.lay x) (Pt.lay y)=some (x.top==y.top&&(x.at_==y.at_&&(x.bytes==y.bytes&&((x.bh:Int)==y.bh&&(x.kind==y.kind&&((x.a:Int)==y.a&&((x.b:Int)==y.b&&((x.c:Int)==y.c&&(x.d:Int)==y.d)))))))):=rfl
  rw [this]
  cases x;cases y
  congr 1
  rw [Bool.eq_iff_iff]
  simp
  omega
 nh:=by decide +kernel
 ag:=by decide +kernel
 st:=⟨_,rfl⟩
 sb:=fun x=>by simp [Pt.lay,Instr.sameBits]
section
variable (t pool:Nat)(tp:Tp)(pr:Bool)(n:Nat)(ls:List (Option Lv))(no:Nat)(V:Chunk)(hV:jb t pool tp pr n ls no V)(ok:dK tp pr n ls.length)(dE:n<=2048)
variable (s al:Nat)(ra rd txg note:Nat)
include hV ok dE
theorem Z6 (m:Nat)(hm:m=aN pr ls.length 1024)(a:Rm)(ha:a.Ok (bD pr ls.length n:Nat) m)(Al:Chunk)(hA:pd al ((bD pr ls.length n:Nat):Int) (m:Nat) a Al)(AO:txg<18446744073709551616)
  (r1 r2:Nat) (Ln:List (Int×Value)) (nd:List (Int×List Pt)) (CN VN:Chunk) (hN:Mp r2 .i64 Ln CN) (hNV:eS PC Ln nd VN) (Mo:∀e∈nd,e.2.length<=200)
  (Ld:List (Int×Value)) (od:List (Int×List Pt)) (CD VD:Chunk) (hD:Mp rd .i64 Ld CD) (hDV:eS PC Ld od VD) (s7:∀e∈od,e.2.length<=200) (Z7:wH m a od) :
  Ct 163 [ptr s,.map (some r1),.map (some r2)] [[(s,bR t (ptr al) ra rd txg note)],V,CN,VN,CD,VD,Al] fun u Bs=>u = .int .i64 0/\∃fs jN,fs.Nodup/\(∀x,x∈fs↔x∈bc od/\x∉bc nd)/\kh (bD pr ls.length n:Nat) m m txg a fs/\pd al ((bD pr ls.length n:Nat):Int) (m:Nat) ((br txg a m fs).sync txg) jN/\Bs=[[(s,bR t (ptr al) r1 r2 txg note)],V,CN,VN,CD,VD,jN]:=by
 have hky:=Xb
 have hz:=iB pr ok.hw ⟨ok.hn.1,dE⟩
 have ZB:=sI pr ok.hw ok.hp
 rw [<-hm] at ZB
 have hnN:=hNV.keys
 have hnD:=hDV.keys
 have Sg:(nd.map (·.1)).Nodup:=by rw [hnN];exact hN.nodup
 have hdn:(od.map (·.1)).Nodup:=by rw [hnD];exact hD.nodup
 refine st Tryz.func163 fun w0 => ?_
 refine uM .i64 ?_;intro r7 C7 h7
 refine gr ?_
 intro it DI hI
 refine gl [0,1,2,6,7,19] (fun (_:List Pt×List (Int×Value)×Chunk×Chunk)=>[]) (fun (_,_,M7,DI)=>[CN,DI,VN,M7]) (fun (K,rest,M7,DI)=>yf r2 it .i64 Ln rest CN DI/\Cc Pt.lay r7 K M7/\(∀x∈K,x∈bc nd)/\∀x∈bc nd,x∈K\/∃q∈rest.map (·.1),∃l,aH nd q=some l/\x∈l) (fun (_,rest,_)=>rest.length) ([],Ln,C7,DI) ⟨hI,Cc.start h7,fun _ h=>(List.not_mem_nil h).elim,fun x hx=>.inr ?_⟩ ?_
 ·obtain ⟨e,he,ym⟩:=List.mem_flatMap.1 hx
  exact ⟨e.1,by rw [<-hnN];exact List.mem_map_of_mem he,e.2,lK Sg he,ym⟩
 clear hI h7
 rintro ⟨K,rest,M7,DI⟩ ⟨hI,hK,hKn,UO⟩
 refine NM ?_ ?_
 ·rintro rfl
  have ab6:∀x,x∈K↔x∈bc nd:=fun x=>⟨hKn x,fun h=>(UO x h).resolve_right (by rintro ⟨q,hq, -⟩;cases hq)⟩
  clear hKn UO
  have hMp:=hI.mp
  clear hI
  refine gr ?_
  intro it2 xI hI
  refine gl [0,1,2,6,7,37] (fun (_:List Pt×List Pt×List (Int×Value)×Chunk×Chunk×Chunk)=>[]) (fun (_,_,_,M7,DI,Al)=>[CD,DI,VD,M7,Al]) (fun (K,fs,rest,M7,DI,Al)=>yf rd it2 .i64 Ld rest CD DI/\Cc Pt.lay r7 K M7/\(∀x,x∈K↔x∈bc nd\/x∈fs)/\fs.Nodup/\(∀x∈fs,x∈bc od/\x∉bc nd)/\kh (bD pr ls.length n:Nat) m m txg a fs/\pd al ((bD pr ls.length n:Nat):Int) (m:Nat) (br txg a m fs) Al/\∀x∈bc od,x∈K\/∃q∈rest.map (·.1),∃l,aH od q=some l/\x∈l) (fun (_,_,rest,_)=>rest.length) (K,[],Ld,M7,xI,Al) ⟨hI,‹Cc Pt.lay r7 K M7›,fun x=>by rw [ab6];simp,List.nodup_nil,fun _ h=>(List.not_mem_nil h).elim,.nil ha,hA,fun x hx=>.inr ?_⟩ ?_
  ·obtain ⟨e,he,ym⟩:=List.mem_flatMap.1 hx
   exact ⟨e.1,by rw [<-hnD];exact List.mem_map_of_mem he,e.2,lK hdn he,ym⟩
  clear hI hA ha ab6
  rintro ⟨K,fs,rest,M7,DI3,Al⟩ ⟨hI,hK,UP,zA,MD,z8,hA,UO⟩
  refine NM ?_ ?_
  ·rintro rfl
   refine gc (Uf al _ m oZ oZ _ z8.ok Al hA txg AO) ?_
   rintro _ _ ⟨jN,dY,rfl⟩
   refine gz ?_
   exact fin ⟨rfl,fs,jN,zA,fun x=>⟨MD x,fun ⟨h1,h2⟩=>by
    rcases UO x h1 with h | ⟨q,hq, -⟩
    ·exact ((UP x).1 h).resolve_left h2
    ·cases hq⟩,z8,dY,rfl⟩ aa
  ·rintro X q v Y GR rfl gN qL hE
   rcases hDV.look q with ⟨h1, -⟩ | ⟨v',l,V1,D,V2,h1,h2,rfl,Bx, -, -⟩
   ·rw [gN] at h1;cases h1
   ·obtain rfl:v=v':=by rw [gN] at h1;exact Option.some.inj h1
    have Bx:az D 108 9 v l.length (aO l):=Bx
    have jw:=Bx.rd
    have iM:l.length<=200:=s7 _ (aI h2)
    obtain ⟨oH,cl,rfl⟩:=jw.slice
    refine NN ?_
    refine gs ?_
    refine gl [0,1,2,6,7,37,42,43] (fun ((i,_):Nat×List Pt×List Pt×Chunk×Chunk)=>[(44,.int .i64 i)]) (fun (_,_,_,M7,Al)=>[M7,Al]) (fun (i,K2,fs,M7,Al)=>i<=l.length/\Cc Pt.lay r7 K2 M7/\(∀x,x∈K2↔x∈bc nd\/x∈fs)/\fs.Nodup/\(∀x∈fs,x∈bc od/\x∉bc nd)/\kh (bD pr ls.length n:Nat) m m txg a fs/\pd al ((bD pr ls.length n:Nat):Int) (m:Nat) (br txg a m fs) Al/\(∀x∈K,x∈K2)/\∀x∈l.take i,x∈K2) (fun (i,_)=>l.length - i) (0,K,fs,M7,Al) ⟨by omega,hK,UP,zA,MD,z8,hA,fun _ h=>h,fun x h=>by rw [List.take_zero] at h;cases h⟩ ?_
    clear hK UP zA MD z8 hA
    rintro ⟨i,K2,fs,M7,Al⟩ ⟨hi,Z8,UP,zA,MD,z8,hA,QD,jj⟩
    refine gi ?_ ?_ <;> intro bo
    ·have bm:i<l.length:=by omega
     obtain ⟨g,off,rfl⟩:=jw.addr oZ
     have hs:=ar (lay:=Pt.lay) (s:=9) (fun _=>rfl) l i l[i] (by simp)
     have Ft:l[i]∈bc od:=wI h2 _ (List.getElem_mem bm)
     obtain ⟨x,hx⟩:∃x,x=l[i]:=⟨_,rfl⟩
     rw [<-hx] at hs Ft
     have mw:=I0 s t pool tp pr n ls no V hV ok dE (ptr al) ra rd txg note x (Z7.top x Ft)
     rw [<-hm,Z7.at_ x Ft] at mw
     refine ga ?_;intro b15
     refine glu Pt.lay x ?_
     refine gi ?_ ?_ <;> intro jG
     ·have jG:x∈K2:=by simpa using jG
      refine gn ?_
      refine ⟨(i+1,K2,fs,M7,Al),⟨by omega,Z8,UP,zA,MD,z8,hA,QD,fun y hy => ?_⟩,by simp only;omega,aq,_,aa⟩
      rw [aG l bm] at hy
      rcases List.mem_append.1 hy with hy | hy
      ·exact jj y hy
      ·rw [List.mem_singleton.1 hy,<-hx];exact jG
     ·have jG:x∉K2:=by simpa using jG
      have hxf:x∉fs:=fun h=>jG ((UP x).2 (.inr h))
      have hxn:x∉bc nd:=fun h=>jG ((UP x).2 (.inl h))
      obtain ⟨g1,g2,g3⟩:=z8.snoc Z7 (fun y hy=>(MD y hy).1) Ft hxf
      have pg:=Ue al _ m oZ oZ _ z8.ok Al hA txg _ g1 g2
      refine guu Pt.lay x ?_
      rw [if_neg jG]
      intro M8 hK3
      refine qM [[(s,bR t (ptr al) ra rd txg note)],[(b15,ax x.lay 108)]] [0,4,8,12,16,20,28,32,36,40,25,47,50] ?_
      refine gc mw ?_
      rintro _ _ ⟨rfl,rfl⟩
      refine gc pg ?_
      rintro _ _ ⟨rfl,jN,dY,rfl⟩
      refine gn ?_
      refine ⟨(i+1,K2++[x],fs++[x],M8,jN),⟨by omega,hK3,fun y => ?_, ?_,fun y hy => ?_,g3,by rw [jd];exact dY,fun y hy=>List.mem_append_left _ (QD y hy),fun y hy => ?_⟩,by simp only;omega,aq,_,aa⟩
      ·rw [List.mem_append,List.mem_append,UP y,or_assoc]
      ·rw [List.nodup_append]
       exact ⟨zA,by simp,fun y hy z hz e=>by rw [List.mem_singleton.1 hz] at e;exact hxf (e ▸ hy)⟩
      ·rcases List.mem_append.1 hy with hy | hy
       ·exact MD y hy
       ·rw [List.mem_singleton.1 hy];exact ⟨Ft,hxn⟩
      ·rw [aG l bm] at hy
       rcases List.mem_append.1 hy with hy | hy
       ·exact List.mem_append_left _ (jj y hy)
       ·rw [List.mem_singleton.1 hy,<-hx];simp
    ·obtain rfl:i=l.length:=by omega
     rw [List.take_length] at jj
     refine gn ?_
     refine ⟨(K2,fs,X++Y,M7,GR,Al),⟨qL,Z8,UP,zA,MD,z8,hA,fun x hx => ?_⟩,by simp only [List.length_append,List.length_cons];omega,aq,_,aa⟩
     rcases UO x hx with h | ⟨q',ni,l',lW,Fu⟩
     ·exact .inl (QD x h)
     ·rw [List.map_append,List.map_cons,List.mem_append,List.mem_cons] at ni
      rcases ni with ni | rfl | ni
      ·exact .inr ⟨q',by rw [List.map_append];exact List.mem_append_left _ ni,l',lW,Fu⟩
      ·rw [h2] at lW;cases lW;exact .inl (jj x Fu)
      ·exact .inr ⟨q',by rw [List.map_append];exact List.mem_append_right _ ni,l',lW,Fu⟩
 ·rintro X q v Y GR rfl gN qL hE
  rcases hNV.look q with ⟨h1, -⟩ | ⟨v',l,V1,D,V2,h1,h2,rfl,Bx, -, -⟩
  ·rw [gN] at h1;cases h1
  ·obtain rfl:v=v':=by rw [gN] at h1;exact Option.some.inj h1
   have Bx:az D 108 9 v l.length (aO l):=Bx
   have jw:=Bx.rd
   have iM:l.length<=200:=Mo _ (aI h2)
   obtain ⟨oH,cl,rfl⟩:=jw.slice
   refine NN ?_
   refine gs ?_
   refine gl [0,1,2,6,7,19,24,25] (fun ((i,_):Nat×List Pt×Chunk)=>[(26,.int .i64 i)]) (fun (_,_,M7)=>[M7]) (fun (i,K2,M7)=>i<=l.length/\Cc Pt.lay r7 K2 M7/\(∀x∈K2,x∈bc nd)/\(∀x∈K,x∈K2)/\∀x∈l.take i,x∈K2) (fun (i,_)=>l.length - i) (0,K,M7) ⟨by omega,hK,hKn,fun _ h=>h,fun x h=>by rw [List.take_zero] at h;cases h⟩ ?_
   clear hK
   rintro ⟨i,K2,M7⟩ ⟨hi,Z8,Z9,QD,jj⟩
   refine gi ?_ ?_ <;> intro bo
   ·have bm:i<l.length:=by omega
    obtain ⟨g,off,rfl⟩:=jw.addr oZ
    have hs:=ar (lay:=Pt.lay) (s:=9) (fun _=>rfl) l i l[i] (by simp)
    refine ga ?_;intro b11
    refine guu Pt.lay l[i] ?_
    intro M8 hK3
    refine gn ?_
    refine ⟨(i+1,_,M8),⟨by omega,hK3,fun x hx => ?_,fun x hx => ?_,fun x hx => ?_⟩,by simp only;omega,aq,_,aa⟩
    ·split at hx
     ·exact Z9 x hx
     ·rcases List.mem_append.1 hx with hx | hx
      ·exact Z9 x hx
      ·rw [List.mem_singleton.1 hx];exact wI h2 _ (List.getElem_mem bm)
    ·split
     ·exact QD x hx
     ·exact List.mem_append_left _ (QD x hx)
    ·rw [aG l bm] at hx
     rcases List.mem_append.1 hx with hx | hx
     ·split
      ·exact jj x hx
      ·exact List.mem_append_left _ (jj x hx)
     ·rw [List.mem_singleton.1 hx]
      split
      ·assumption
      ·simp
   ·obtain rfl:i=l.length:=by omega
    rw [List.take_length] at jj
    refine gn ?_
    refine ⟨(K2,X++Y,M7,GR),⟨qL,Z8,Z9,fun x hx => ?_⟩,by simp only [List.length_append,List.length_cons];omega,aq,_,aa⟩
    rcases UO x hx with h | ⟨q',ni,l',lW,Fu⟩
    ·exact .inl (QD x h)
    ·rw [List.map_append,List.map_cons,List.mem_append,List.mem_cons] at ni
     rcases ni with ni | rfl | ni
     ·exact .inr ⟨q',by rw [List.map_append];exact List.mem_append_left _ ni,l',lW,Fu⟩
     ·rw [h2] at lW;cases lW;exact .inl (jj x Fu)
     ·exact .inr ⟨q',by rw [List.map_append];exact List.mem_append_right _ ni,l',lW,Fu⟩
end
end Go.Proofs.YteldablklnfblaaGreatDoor
namespace Go.Sl
def sM (pr:Bool)(ls:List (Option Lv))(n gt:Nat)(P:PS)(o:Ob)(P':PS)(o':Ob):Prop:=(o.clean=true/\P'=P/\o'=o)\/(o.clean=false/\wF pr ls n gt P o P' o')
def EA (NL:Nat)(o:Ob):Nat:=if o.clean then 0 else xk NL+o.fresh.length
inductive lT (pr:Bool)(ls:List (Option Lv))(n gt:Nat)(all:List (Int×Ob))(P:PS):List Int->PS->List (Int×Ob)->List (Int×List Pt)->Prop
 | nil:lT pr ls n gt all P [] P [] []
 | snoc {ks:List Int} {P1 P2:PS} {os:List (Int×Ob)} {ds:List (Int×List Pt)} {k:Int} {o o':Ob}:lT pr ls n gt all P ks P1 os ds->aH all k=some o->sM pr ls n gt P1 o P2 o'->lT pr ls n gt all P (ks++[k]) P2 (os++[(k,o')]) (ds++[(k,bH (o'.ay++o'.index))])
structure PS.Ge (P P':PS):Prop where
 fI:P'.x.fI=P.x.fI
 sub:∀k∈P.x.D,k∈P'.x.D
theorem PS.Ge.rfl {P:PS}:P.Ge P:=⟨Eq.refl _,fun _ h=>h⟩
theorem PS.Ge.trans {P Q R:PS}(h:P.Ge Q)(k:Q.Ge R):P.Ge R:=⟨k.fI.trans h.fI,fun x hx=>k.sub x (h.sub x hx)⟩
section
variable {pr:Bool}{ls:List (Option Lv)}{n gt:Nat}{P P':PS}
theorem l8.ge {b:List UInt8}{pt:Pt}(h:l8 pr ls n gt P b P' pt):P.Ge P':=by
 rcases h with ⟨-,rfl, -⟩ | ⟨-,k, -, -, -,rfl⟩
 ·exact .rfl
 ·exact ⟨rfl,fun x hx=>List.mem_cons_of_mem _ hx⟩
theorem l8.rok {b:List UInt8}{pt:Pt}(h:l8 pr ls n gt P b P' pt)(hx:P.x.Ok (bD pr ls.length n:Nat) (aN pr ls.length 1024:Nat)):P'.x.Ok (bD pr ls.length n:Nat) (aN pr ls.length 1024:Nat):=by
 rcases h with ⟨-,rfl, -⟩ | ⟨-,k,hk,jE, -,rfl⟩
 ·exact hx
 ·exact ⟨fun j hj=>(List.mem_cons.1 hj).elim (fun e=>by rw [e];exact jE) (hx.dl j),hx.wn,fun j hj=>List.mem_cons_of_mem _ (hx.wd j hj)⟩
structure PS.Go (pr:Bool)(ls:List (Option Lv))(n:Nat)(P P':PS):Prop where
 ge:P.Ge P'
 ok:P.x.Ok (bD pr ls.length n:Nat) (aN pr ls.length 1024:Nat)->P'.x.Ok (bD pr ls.length n:Nat) (aN pr ls.length 1024:Nat)
theorem PS.Go.rfl:P.Go pr ls n P:=⟨.rfl,fun h=>h⟩
theorem PS.Go.trans {Q R:PS}(h:P.Go pr ls n Q)(k:Q.Go pr ls n R):P.Go pr ls n R:=⟨h.ge.trans k.ge,fun x=>k.ok (h.ok x)⟩
theorem l8.go {b:List UInt8}{pt:Pt}(h:l8 pr ls n gt P b P' pt):P.Go pr ls n P':=⟨h.ge,h.rok⟩
theorem jZ.go {bs:List (List UInt8)}{ps:List Pt}(h:jZ pr ls n gt P bs P' ps):P.Go pr ls n P':=by
 induction h with
 | nil=>exact .rfl
 | snoc _ h ih=>exact ih.trans h.go
theorem qu.go {l idx:List Pt}{root:Pt}(h:qu pr ls n gt P P' l idx root):P.Go pr ls n P':=by
 rcases h with ⟨-,rfl, -, -⟩ | ⟨-,level,P1,h1,h2, -⟩
 ·exact .rfl
 ·exact h1.go.trans h2.go
theorem MI.go {fresh:List (Int×List UInt8)}{l0 l1:List Pt}{ks:List Int}(h:MI pr ls n gt fresh P l0 ks P' l1):P.Go pr ls n P':=by
 induction h with
 | nil=>exact .rfl
 | snoc _ _ h ih=>exact ih.trans h.go
theorem wF.go {o o':Ob}(h:wF pr ls n gt P o P' o'):P.Go pr ls n P':=by
 obtain ⟨ks,P1,l1,idx,root, -, -,h1,h2, -⟩:=h
 exact h1.go.trans h2.go
theorem sM.go {o o':Ob}(h:sM pr ls n gt P o P' o'):P.Go pr ls n P':=by
 rcases h with ⟨-,rfl, -⟩ | ⟨-,h⟩
 ·exact .rfl
 ·exact h.go
theorem lT.go {all os:List (Int×Ob)}{ks:List Int}{ds:List (Int×List Pt)}(h:lT pr ls n gt all P ks P' os ds):P.Go pr ls n P':=by
 induction h with
 | nil=>exact .rfl
 | snoc _ _ h ih=>exact ih.trans h.go
theorem wH.go {m:Nat}{od:List (Int×List Pt)}(h:wH m P.x od)(g:P.Ge P'):wH m P'.x od :=
 ⟨h.top,h.at_,fun x hx=>g.sub _ (h.hd x hx),fun x hx=>by rw [show P'.x.W=P.x.W by unfold Rm.W;rw [g.fI]];exact h.wt x hx,h.inj⟩
theorem lT.keys {all os:List (Int×Ob)}{ks:List Int}{ds:List (Int×List Pt)}(h:lT pr ls n gt all P ks P' os ds):os.map (·.1)=ks/\ds.map (·.1)=ks:=by
 induction h with
 | nil=>exact ⟨rfl,rfl⟩
 | snoc _ _ _ ih=>rw [List.map_append,List.map_append,ih.1,ih.2];exact ⟨rfl,rfl⟩
end
section
variable {β:Type}
def tf (ks:List Int)(M:List (Int×β)):List (Int×β):=M.filter fun e => !ks.contains e.1
theorem EB (M:List (Int×β)):tf [] M=M:=by unfold tf;rw [List.filter_eq_self];intro e _;rfl
theorem yQ (ks:List Int)(k:Int)(M:List (Int×β)):oN (tf ks M) k=tf (ks++[k]) M:=by
 unfold oN tf
 rw [List.filter_filter]
 apply List.filter_congr
 intro e _
 rw [Bool.eq_iff_iff]
 simp [and_comm]
theorem AP {ks:List Int}{k:Int}(h:k∉ks):∀(M:List (Int×β)),aH (tf ks M) k=aH M k
 | []=>rfl
 | e :: r=>by
  have ih:=AP h r
  unfold tf at *
  by_cases c:ks.contains e.1
  ·rw [List.filter_cons_of_neg (by simpa using c),ih]
   have:e.1≠k:=by rintro rfl;exact h (by simpa using c)
   unfold aH;rw [List.find?_cons_of_neg (by simpa using this)]
  ·rw [List.filter_cons_of_pos (by simpa using c)]
   unfold aH at *
   by_cases d:e.1=k
   ·rw [List.find?_cons_of_pos (by simpa using d),List.find?_cons_of_pos (by simpa using d)]
   ·rw [List.find?_cons_of_neg (by simpa using d),List.find?_cons_of_neg (by simpa using d)];exact ih
theorem mW {q:Int}{x:β}:∀ {M:List (Int×β)},q∉M.map (·.1)->ec M q x=M++[(q,x)]
 | [],_=>rfl
 | (p,u) :: L,h=>by
  rw [List.map_cons,List.mem_cons,not_or] at h
  rw [ec,if_neg (fun e=>h.1 e.symm),mW h.2];rfl
theorem j0 {q:Int}{M:List (Int×β)}(h:q∉M.map (·.1)):aH M q=none:=by
 unfold aH
 rw [Option.map_eq_none_iff,List.find?_eq_none]
 intro e he
 simpa using fun c:e.1=q=>h (by rw [<-c];exact List.mem_map_of_mem he)
theorem kY {q k:Int}{x:β}:∀ {M:List (Int×β)},q∉M.map (·.1)->aH (M++[(q,x)]) k=if k=q then some x else aH M k
 | [],_=>by
  unfold aH
  by_cases c:k=q
  ·subst c;simp
  ·have:¬q=k:=fun h=>c h.symm
   simp [c,this]
 | e :: r,h=>by
  rw [List.map_cons,List.mem_cons,not_or] at h
  have ih:=kY (k:=k) (x:=x) h.2
  unfold aH at *
  rw [List.cons_append]
  by_cases d:e.1=k
  ·rw [List.find?_cons_of_pos (by simpa using d),List.find?_cons_of_pos (by simpa using d),if_neg (by rintro rfl;exact h.1 d.symm)]
  ·rw [List.find?_cons_of_neg (by simpa using d),List.find?_cons_of_neg (by simpa using d)];exact ih
def je:Nat->List β->List (Int×β)
 | _,[]=>[]
 | i,v :: r=>((i:Int),v) :: je (i+1) r
theorem kZ:∀(i:Nat) (l:List β),(je i l).length=l.length
 | _,[]=>rfl
 | i,v :: r=>by simp [je,kZ (i+1) r]
theorem mX:∀(i:Nat) (l:List β) (j:Nat) (h:j<(je i l).length),(je i l)[j]=(((i+j:Nat):Int),l[j]'(by rw [<-kZ i l];exact h))
 | i,v :: r,0,_=>rfl
 | i,v :: r,j+1,h=>by
  have:=mX (i+1) r j (by simpa [je] using h)
  simp only [je,List.getElem_cons_succ]
  rw [this]
  congr 2;omega
theorem qx {i:Nat}{l:List β}:∀ {e:Int×β},e∈je i l->∃j,j<l.length/\e.1=((i+j:Nat):Int)/\l[j]? = some e.2:=by
 intro e he
 obtain ⟨j,hj,rfl⟩:=List.getElem_of_mem he
 have zo:=hj
 rw [kZ] at zo
 rw [mX]
 exact ⟨j,zo,rfl,by simp [zo]⟩
theorem oX:∀(i:Nat) (l:List β),((je i l).map (·.1)).Nodup
 | _,[]=>List.nodup_nil
 | i,v :: r=>by
  simp only [je,List.map_cons,List.nodup_cons]
  refine ⟨fun h => ?_,oX (i+1) r⟩
  obtain ⟨e,he,e2⟩:=List.mem_map.1 h
  obtain ⟨j, -,e3, -⟩:=qx he
  omega
end
theorem aaa {L:List (Int×Value)}{q:Int}{v:Value}:gM L q v=ec L q v:=by
 induction L with
 | nil=>rfl
 | cons e r ih=>obtain ⟨p,u⟩:=e;simp only [gM,ec,ih]
theorem QE {L:List (Int×Value)}{q:Int}{v:Value}(h:q∉L.map (·.1)):gM L q v=L++[(q,v)]:=by rw [aaa,mW h]
def slotsOf (os:List (Int×Ob)):List eX:=(List.range 112).map fun (i:Nat)=>match aH os ((i+1:Nat):Int) with
 | some o=>o.slot
 | none=>eu
theorem eJ (os:List (Int×Ob)):(slotsOf os).length=112:=by simp [slotsOf]
theorem sN:slotsOf []=List.replicate 112 eu:=by
 unfold slotsOf
 apply List.ext_getElem (by simp)
 intro i h1 h2
 rw [List.getElem_map,List.getElem_replicate];rfl
theorem AQ {os:List (Int×Ob)}{k:Nat}{o:Ob}(hk:k<112)(h:((k+1:Nat):Int)∉os.map (·.1)):slotsOf (os++[(((k+1:Nat):Int),o)])=(slotsOf os).set k o.slot:=by
 apply List.ext_getElem (by simp [slotsOf])
 intro i h1 h2
 rw [List.getElem_set]
 unfold slotsOf
 simp only [List.getElem_map,List.getElem_range,kY h]
 by_cases c:k=i
 ·subst c;simp
 ·rw [if_neg c,if_neg oZ]
theorem sO {os:List (Int×Ob)}{x:eX}(h:x∈slotsOf os):x=eu\/∃k o,aH os k=some o/\x=o.slot:=by
 obtain ⟨i, -,rfl⟩:=List.mem_map.1 h
 cases hl:aH os ((i+1:Nat):Int) with
 | none=>exact .inl (by simp only)
 | some o=>exact .inr ⟨_,o,hl,by simp only⟩
def iS (b:List UInt8):Ob:=⟨false,0,ah,[],[],je 0 (eV b),false⟩
theorem yR {b:List UInt8}:∀x∈eV b,x.length<=1024:=fun x hx=>by
 obtain ⟨g,hg,rfl⟩:=List.mem_map.1 hx
 have h1:=mU g
 obtain ⟨i,hi,rfl⟩:=List.getElem_of_mem hg
 rw [lB] at *
 simp only [List.length_take] at h1
 omega
end Go.Sl
namespace Go.Proofs.YteldablklnfblaaGreatDoor
open Go.Sl
theorem QF:∀ {V:Chunk} {vs:List Value} {xs:List (List UInt8)} (i:Nat),xg 5 1 ak V vs xs->eS lI (je i vs) (je i xs) V
 | _,[],[],_,h=>h
 | _,_ :: _,_ :: _,i,⟨C,D',e,hC,h⟩=>⟨rfl,C,D',hC,QF (i+1) h,e⟩
 | _,[],_ :: _,_,h=>h.elim
 | _,_ :: _,[],_,h=>h.elim
end Go.Proofs.YteldablklnfblaaGreatDoor
namespace Go.Sl
structure LD (NL:Nat)(o:Ob):Prop where
 fk:∀e∈o.fresh,0<=e.1/\e.1<NL/\e.2.length<=1024
 fl:o.fresh.length<=64
 pl:o.ay.length<=NL
 po:∀x∈o.ay,fB x=0/\x.Ok
 il:o.index.length<=5
 rt:fB o.root=0/\o.root.Ok
theorem k9 (l:List Pt):(bH l).length<=l.length:=List.length_filter_le _ _
theorem QG (l:List eX):∀u∈l.flatMap eX.lay,u.oneCell'=true:=fun u hu=>by
 obtain ⟨x, -,hx⟩:=List.mem_flatMap.1 hu
 simp only [eX.lay,List.mem_cons,List.not_mem_nil,or_false] at hx
 rcases hx with rfl | rfl | rfl | rfl | rfl | rfl | rfl | rfl | rfl | rfl | rfl <;> rfl
theorem UQ {ls:List (Option Lv)}(h:ls.length<=5):(iH ls).length<=5:=by
 have:=cV (f:=nr ls) (c:=1) (fun k=>by unfold nr;split <;> simp) ls.length
 unfold iH;omega
section
variable {pr:Bool}{ls:List (Option Lv)}{n gt NL:Nat}{P P':PS}(hz:bD pr ls.length n<=10240)(ic:1<=gt/\gt<=281474976710656)
theorem l8.bh {b:List UInt8}{pt:Pt}(h:l8 pr ls n gt P b P' pt):pt.bh<=gt:=by
 rcases h with ⟨-, -,rfl⟩ | ⟨-,k, -, -,rfl, -⟩
 ·exact Nat.zero_le _
 ·exact Nat.le_refl _
include hz ic
theorem MI.Sh {fresh:List (Int×List UInt8)}{l0 l1:List Pt}{ks:List Int}(hf:∀e∈fresh,0<=e.1/\e.1<NL/\e.2.length<=1024)(h0:l0.length<=NL)(h0o:∀x∈l0,fB x=0/\x.Ok)(h:MI pr ls n gt fresh P l0 ks P' l1):l1.length<=NL/\∀x∈l1,fB x=0/\x.Ok:=by
 induction h with
 | nil=>exact ⟨h0,h0o⟩
 | snoc _ hl hp ih =>
  have hk:=hf _ (aI hl)
  refine ⟨by rw [List.length_set,Ex];simp only at hk;omega,fun x hx => ?_⟩
  rcases List.mem_or_eq_of_mem_set hx with hx | rfl
  ·rcases List.mem_append.1 hx with hx | hx
   ·exact ih.2 x hx
   ·rw [List.eq_of_mem_replicate hx];exact ⟨by simp [fB],dx⟩
  ·exact hp.pok hz hk.2.2 ic
theorem qu.Sh {l idx:List Pt}{root:Pt}(hl:l.length<=64)(h:qu pr ls n gt P P' l idx root):idx.length<=5/\(fB root=0/\root.Ok)/\root.bh<=gt:=by
 rcases h with ⟨-, -,rfl,rfl⟩ | ⟨-,level,P1,h1,h2,rfl⟩
 ·exact ⟨by simp,⟨by simp [fB],dx⟩,Nat.zero_le _⟩
 ·have h3:=h1.len
  rw [rV] at h3
  have h4:cY l.length 16<=4:=by unfold cY;omega
  refine ⟨by simp;omega,h2.pok hz ?_ ic,h2.bh⟩
  have:=mU (fS level)
  rw [ju] at this
  omega
theorem wF.Sh {o o':Ob}(hN:NL<=64)(ho:LD NL o)(h:wF pr ls n gt P o P' o'):o'.ay.length<=NL/\(∀x∈o'.ay,fB x=0/\x.Ok)/\o'.index.length<=5/\(fB o'.root=0/\o'.root.Ok)/\o'.used=o.used/\o'.size=o.size/\o'.root.bh<=gt:=by
 obtain ⟨ks,P1,l1,idx,root, -, -,h1,h2,rfl⟩:=h
 have h3:=h1.Sh hz ic ho.fk ho.pl ho.po
 have h4:=h2.Sh hz ic oZ
 exact ⟨h3.1,h3.2,h4.1,h4.2.1,rfl,rfl,h4.2.2⟩
theorem sM.Sh {o o':Ob}(hN:NL<=64)(ho:LD NL o)(h:sM pr ls n gt P o P' o'):o'.ay.length<=NL/\(∀x∈o'.ay,fB x=0/\x.Ok)/\o'.index.length<=5/\(fB o'.root=0/\o'.root.Ok)/\o'.used=o.used/\o'.size=o.size:=by
 rcases h with ⟨-, -,rfl⟩ | ⟨-,h⟩
 ·exact ⟨ho.pl,ho.po,ho.il,ho.rt,rfl,rfl⟩
 ·obtain ⟨h1,h2,h3,h4,h5,h6, -⟩:=h.Sh hz ic hN ho
  exact ⟨h1,h2,h3,h4,h5,h6⟩
end
section
variable {X:Cx}{f:Fx}{ops:List Oper}{k:Kt}{Ms Ls Rs:List Chunk}{κ:Nat}{r':aA}{e:Env}
theorem WD.UR {α:Type}{lay:α->List Value}{y0:α}{xs:List α}{vs:List Value}{b i j s:Nat}{t T:TypeId}{x y:Operand}(hl:EP lay y0 xs i s)(hκ:dD κ=true)(hx:ev e x=some (.pointer (some ⟨b,j,none⟩)))(hy:ev e y=some (.agg vs.toArray))(hv:vs=lay y0)(hvl:vs.length=s)(h1:vs.all (·.oneCell')=true)(hT:X.T.Ok X.P)(hs:X.T.sz t=some s)(hp:Ls.Perm ([(b,ax (xs.flatMap lay) T)] :: Rs))(hi:i<xs.length)(hj:j=i*s)
  (hk:cM κ Ms ([(b,ax ((xs.set i y0).flatMap lay) T)] :: Rs)) (g:WO X f ops k Ms r' e ([(b,ax ((xs.set i y0).flatMap lay) T)] :: Rs)):WD X f ops k Ms κ none (.store t x y) r' e Ls:=by
 have h:=@WD.Qy X f ops k Ms Ls Rs κ r' e α lay y0 xs vs [] b i j s t T x y hl hκ hx hy hv hvl h1 hT hs
 rw [List.append_nil,List.append_nil] at h
 exact h hp hi hj hk g
end
theorem fx {α:Type}[DecidableEq α]:∀ {l m:List α},l.Nodup->(∀x∈l,x∈m)->l.length<=m.length
 | [],_,_,_=>Nat.zero_le _
 | x :: r,m,hn,h=>by
  rw [List.nodup_cons] at hn
  have hx:=h x (List.mem_cons_self ..)
  have:=fx (l:=r) (m:=m.erase x) hn.2 fun y hy=>(List.mem_erase_of_ne (by rintro rfl;exact hn.1 hy)).2 (h y (List.mem_cons_of_mem _ hy))
  rw [List.length_erase_of_mem hx] at this
  have h2:=List.length_pos_of_mem hx
  simp only [List.length_cons];omega
def Si (z:Nat):Nat:=16*cY (cY z 1024) 16
def EC (all:List (Int×Ob))(k:Int):Nat:=match aH all k with
 | some o=>EA (Si o.size) o
 | none=>0
def mY (all:List (Int×Ob))(ks:List Int):Nat:=(ks.map (EC all)).sum
theorem Hn {all:List (Int×Ob)}{ks js:List Int}(h:ks.Perm js):mY all ks=mY all js:=(h.map _).sum_nat
def CmR (pr:Bool)(ls:List (Option Lv))(n txg:Nat)(all:List (Int×Ob))(od:List (Int×List Pt))(P:PS)(ks:List Int)(os:List (Int×Ob))(ds:List (Int×List Pt))(P2:PS)(mo:Ob)(fs:List Pt):Prop :=
 ∃P1 ds0,ks.Perm (all.map (·.1))/\lT pr ls n (txg+1) all P ks P1 os ds0/\wF pr ls n (txg+1) P1 (iS (fJ (slotsOf os))) P2 mo/\ds=ds0++[(0,bH (mo.ay++mo.index))]/\fs.Nodup/\(∀x,x∈fs↔x∈bc od/\x∉bc ds) /\
  kh (bD pr ls.length n:Nat) (aN pr ls.length 1024:Nat) (aN pr ls.length 1024) (txg+1) P2.x fs
end Go.Sl
namespace Go.Proofs.YteldablklnfblaaGreatDoor
open Go.Sl
set_option maxRecDepth 10000
set_option maxHeartbeats 4000000
theorem aeL {G H:Prop}{α:Type}(lay:α->List Value)(y0:α)(xs:List α)(i:Nat)(s:Nat)(hs:∀a,(lay a).length=s)(k:H)(h:EP lay y0 xs i s->gG H->G:=by
 intro hs kk;refine go ?_;refine WO.dec rfl ?_
 apply WD.UR hs;exact rfl;exact rfl;exact rfl;exact rfl;exact rfl;exact rfl;exact aB;exact rfl;exact pick;exact lens;exact om;exact keeps;exact kk.out):G:=h ⟨hs⟩ ⟨k⟩
section
variable (T:TypeId)(fr:Nat×Nat)(p:Nat)(qs:List Nat)(t pool:Nat)(tp:Tp)(pr:Bool)(n:Nat)(ls:List (Option Lv))(no:Nat)(V:Chunk)(hV:jb t pool tp pr n ls no V)(ok:dK tp pr n ls.length)(dE:n<=2048)(hall:∀x∈ls,x≠none)
variable (s al:Nat)(ra rd txg note:Nat)(g gt:Nat)(ic:1<=gt/\gt<=281474976710656)
include hV ok dE hall ic
theorem US (P:PS)(c:Nat)(a:Nat)(o:Ob)(A:Chunk)(By:WZ a o A)(NL:Nat)(ZX:NL<=64)(ho:LD NL o)(hP:jF qs pr ls n P (c+EA NL o))(G C Al:Chunk)(hG:rQ g s gt ((aN pr ls.length 1024:Nat):Int) P.ks G)(hC:bq p qs P.R C)(hA:pd al ((bD pr ls.length n:Nat):Int) ((aN pr ls.length 1024:Nat):Int) P.x Al) :
  Ct 160 [ptr g,ptr a] [G,[(s,bR t (ptr al) ra rd txg note)],gK T fr,C,V,Al,A] fun u Bs=>∃P' a' o' X A',sM pr ls n gt P o P' o'/\jF qs pr ls n P' c/\WZ a' o' A'/\u = .tuple #[ptr a',.int .i64 0] /\
   ∃G' C' jN,rQ g s gt ((aN pr ls.length 1024:Nat):Int) P'.ks G'/\bq p qs P'.R C'/\pd al ((bD pr ls.length n:Nat):Int) ((aN pr ls.length 1024:Nat):Int) P'.x jN/\Bs=[G',[(s,bR t (ptr al) ra rd txg note)],gK T fr,C',V,jN,X,A']:=by
 cases qO:o.clean with
 | false =>
  unfold EA at hP
  rw [qO,if_neg dZ] at hP
  refine (Qz T fr p qs t pool tp pr n ls no V hV ok dE hall s al ra rd txg note g gt ic P c a o A By qO NL ZX (by rw [Nat.add_assoc];exact hP) ho.fk ho.fl ho.pl ho.po G C Al hG hC hA).post fun u Bs => ?_
  rintro ⟨P',a',o',A',h1,h2,h3,rfl,G',C',jN,xE,bA,dY,rfl⟩
  exact ⟨P',a',o',A,A',.inr ⟨qO,h1⟩,h2,h3,rfl,G',C',jN,xE,bA,dY,rfl⟩
 | true =>
  unfold EA at hP
  rw [qO,if_pos rfl] at hP
  have UT:=By
  obtain ⟨jl,cP,DP,dQ,cI,DX,r,LF,CF,VF,UL,AD,hM,hF,rfl⟩:=By
  rw [qO] at UT ⊢
  refine st Tryz.func160 fun w0 => ?_
  refine gs ?_
  refine gz ?_
  exact fin ⟨P,a,o,[],_,.inl ⟨qO,rfl,rfl⟩,hP,UT,rfl,G,C,Al,hG,hC,hA,rfl⟩ aa
end
section
variable (T:TypeId)(fr:Nat×Nat)(p:Nat)(qs:List Nat)(t pool:Nat)(tp:Tp)(pr:Bool)(n:Nat)(ls:List (Option Lv))(no:Nat)(V:Chunk)(hV:jb t pool tp pr n ls no V)(ok:dK tp pr n ls.length)(dE:n<=2048)(hall:∀x∈ls,x≠none)
variable (s al:Nat)(ra rd txg note:Nat)
include hV ok dE hall
theorem QH (P:PS)(xZ:P.ks=[])(LA:List (Int×Value))(all:List (Int×Ob))(CA VA:Chunk)(hMA:Mp ra .i64 LA CA)(I5:eS wi LA all VA)(hkb:∀e∈all,1<=e.1/\e.1<=112)(Lo:∀e∈all,LD (Si e.2.size) e.2/\e.2.size<=65536/\e.2.used=true)
  (Ld:List (Int×Value)) (od:List (Int×List Pt)) (CD VD:Chunk) (hD:Mp rd .i64 Ld CD) (hDV:eS PC Ld od VD) (s7:∀e∈od,e.2.length<=200) (m:Nat) (hm:m=aN pr ls.length 1024) (Z7:wH m P.x od) (hrx:P.x.Ok (bD pr ls.length n:Nat) (aN pr ls.length 1024:Nat))
  (dT:Nat) (yi:pool<18446744073709551616) (QC:dT<18446744073709551616) (AO:txg+1<=281474976710656)
  (hP:jF qs pr ls n P (10+mY all (LA.map (·.1)))) (C Al:Chunk) (hC:bq p qs P.R C) (hA:pd al ((bD pr ls.length n:Nat):Int) ((aN pr ls.length 1024:Nat):Int) P.x Al) :
  Ct 114 [ptr s,.int .u64 dT] [[(s,bR t (ptr al) ra rd txg note)],gK T fr,C,V,CA,VA,CD,VD,Al] fun u Bs=>u = .int .i64 0/\∃ks os ds P2 mo fs,CmR pr ls n txg all od P ks os ds P2 mo fs/\∃r6 r7 LO LP C6 VO C7 VP C' jN,Mp r6 .i64 LO C6/\eS wi LO os VO/\Mp r7 .i64 LP C7/\eS PC LP ds VP/\jF qs pr ls n P2 0 /\
   bq p qs (((P2.R.run (iH ls)).run (oM n ls ⟨pool,txg+1,dT,mo.root⟩)).run (iH ls)) C'/\pd al ((bD pr ls.length n:Nat):Int) ((aN pr ls.length 1024:Nat):Int) ((br (txg+1) P2.x (aN pr ls.length 1024) fs).sync ((txg+1:Nat):Int)) jN/\Bs=[[(s,bR t (ptr al) r6 r7 (txg+1) dT)],gK T fr,C',V,C6,VO,C7,VP,jN]:=by
 subst hm
 have hz:=iB pr ok.hw ⟨ok.hn.1,dE⟩
 have ZB:=sI pr ok.hw ok.hp
 have ic:1<=txg+1/\txg+1<=281474976710656:=by omega
 have mM:=I5.keys
 have ek:=hMA.nodup
 have hlen:LA.length<=112:=by
  have h1:(LA.map (·.1)).length<=((List.range 112).map fun (i:Nat)=>((i+1:Nat):Int)).length:=by
   refine fx ek fun k hk => ?_
   rw [<-mM] at hk
   obtain ⟨e,he,rfl⟩:=List.mem_map.1 hk
   have:=hkb e he
   exact List.mem_map.2 ⟨(e.1 - 1).toNat,by simp;omega,by omega⟩
  simpa using h1
 have nL:IntKind.u64.wrap ((txg:Int)+1)=((txg+1:Nat):Int):=by rw [IntWalk.u64_in _ oZ];omega
 refine st Tryz.func114 fun w0 => ?_
 refine ga ?_;intro g
 refine uM .i64 ?_;intro r6 C6 h6
 refine uM .i64 ?_;intro r7 C7 h7
 refine gm ?_;intro g8 C8 Ml
 have hC:C8=[(g8,ax ((slotsOf []).flatMap eX.lay) 134)]:=by
  rcases Ml.2.2 with ⟨h,_⟩ | ⟨g',c',r',hv,rfl,_,_,hlen⟩
  ·cases h
  ·cases hv
   have h3:=Ml.1
   obtain rfl:r'=[]:=List.eq_nil_of_length_eq_zero oZ
   rw [List.append_nil]
   have:(List.replicate 112 eu.lay).flatten=(slotsOf []).flatMap eX.lay:=by
    rw [sN,pZ 112 eu eX.lay]
   rw [<-this];rfl
 subst hC
 clear Ml
 refine gc (yE s t (ptr al) ra rd txg note LA CA hMA hlen) ?_
 rintro _ _ ⟨ks,adK,cK,DK,I6, -,rfl,hDK,rfl⟩
 have ZY:=hDK.rd
 have Dy:ks.Nodup:=I6.nodup_iff.2 ek
 have lY:ks.length=LA.length:=by simpa using I6.length_eq
 rw [Hn I6.symm] at hP
 have hki:∀k∈ks,∃o,aH all k=some o/\1<=k/\k<=112:=fun k hk=>by
  have:=I6.mem_iff.1 hk
  rw [<-mM] at this
  obtain ⟨e,he,rfl⟩:=List.mem_map.1 this
  exact ⟨e.2,lK (by rw [mM];exact ek) he,hkb e he⟩
 refine gl [0,1,5,6,7,8,32,33] (fun ((j,_):Nat×PS×List (Int×Ob)×List (Int×List Pt)×List (Int×Value)×List (Int×Value)×Chunk×Chunk×Chunk×Chunk×Chunk×Chunk×Chunk×Chunk)=>[(34,.int .i64 j)]) (fun (_,_,os,_,_,_,C6,VO,C7,VP,VR,G,C,Al)=>[[(g8,ax ((slotsOf os).flatMap eX.lay) 134)],C6,VO,C7,VP,VR,G,C,Al])
  (fun (j,P1,os,ds,LO,LP,C6,VO,C7,VP,VR,G,C,Al)=>j<=ks.length/\lT pr ls n (txg+1) all P (ks.take j) P1 os ds/\jF qs pr ls n P1 (10+mY all (ks.drop j))/\Mp r6 .i64 LO C6/\eS wi LO os VO/\Mp r7 .i64 LP C7/\eS PC LP ds VP/\eS wi (tf (ks.take j) LA) (tf (ks.take j) all) VR/\(∀e∈os,(e.2.slot.Ok/\e.2.ay.length<=64/\e.2.index.length<=5))/\(∀e∈ds,e.2.length<=200)/\rQ g s (txg+1) ((aN pr ls.length 1024:Nat):Int) P1.ks G/\bq p qs P1.R C/\pd al ((bD pr ls.length n:Nat):Int) ((aN pr ls.length 1024:Nat):Int) P1.x Al) (fun (j,_)=>ks.length - j) (0,P,[],[],[],[],C6,[],C7,[],VA,[(g,ax [ptr s,.int .u64 ((txg+1:Nat):Int),.slice none 0 0] 254)],C,Al) ⟨by omega,.nil,hP,h6,rfl,h7,rfl,by rw [List.take_zero,EB,EB];exact I5,fun _ h=>(List.not_mem_nil h).elim,fun _ h=>(List.not_mem_nil h).elim,⟨none,0,[],by rw [xZ];exact az.nil _ _,by rw [xZ];rfl⟩,hC,hA⟩ ?_
 clear h6 h7 I5 hC hA hP
 rintro ⟨j,P1,os,ds,LO,LP,C6,VO,C7,VP,VR,G,C,Al⟩ ⟨hj,hR,hP,h6,hVO,h7,hVP,hVR,PX,Br,hG,hC,hA⟩
 have hRk:=hR.keys
 refine gi ?_ ?_ <;> intro bo
 ·have bm:j<ks.length:=by omega
  obtain ⟨gK_,oK_,rfl⟩:=ZY.addr oZ
  obtain ⟨kz,jE⟩:∃kz,kz=ks[j]:=⟨_,rfl⟩
  have Sa:(ints ks)[j]? = some (.int .i64 kz):=by rw [jE];simp [ints,bm]
  obtain ⟨o,xl,hk1⟩:=hki ks[j] (List.getElem_mem bm)
  rw [<-jE] at xl hk1
  obtain ⟨kk,rfl⟩:∃kk:Nat,kz=((kk+1:Nat):Int):=⟨(kz - 1).toNat,by omega⟩
  have R7:IntKind.i64.wrap (((kk+1:Nat):Int) - 1)=((kk:Nat):Int):=by rw [IntWalk.i64_in _ oZ];omega
  have aeM:kk<112:=by omega
  have fH:=eJ os
  have UU:((kk+1:Nat):Int)∉ks.take j:=fun h=>by
   obtain ⟨i,hi,e⟩:=List.getElem_of_mem h
   rw [List.getElem_take,jE] at e
   rw [List.length_take] at hi
   exact List.pairwise_iff_getElem.1 Dy i j oZ bm oZ e
  obtain ⟨v,wh⟩:∃v,jU LA ((kk+1:Nat):Int)=some v:=by
   have q9:((kk+1:Nat):Int)∈LA.map (·.1):=I6.mem_iff.1 (by rw [jE];exact List.getElem_mem _)
   obtain ⟨e,he,e2⟩:=List.mem_map.1 q9
   exact ⟨e.2,by rw [<-e2];exact lK ek he⟩
  obtain ⟨o2,V1,D,V2,jj,rfl,⟨a,rfl,By⟩,PQ⟩:=hVR.cut (by exact (List.filter_sublist.map _).nodup ek) (show jU (tf (ks.take j) LA) ((kk+1:Nat):Int)=some v by show aH _ _=_;rw [AP UU];exact wh)
  obtain rfl:o=o2:=by rw [AP UU,xl] at jj;exact Option.some.inj jj
  rw [show iu (tf (ks.take j) LA) ((kk+1:Nat):Int)=tf (ks.take (j+1)) LA by rw [aG ks bm,<-jE];exact yQ _ _ _,yQ,jE,<-aG ks bm] at PQ
  have ZJ:=Lo _ (aI xl)
  have ZX:Si o.size<=64:=by have:=ZJ.2.1;unfold Si cY;simp only at this;omega
  have ab7:mY all (ks.drop j)=EA (Si o.size) o+mY all (ks.drop (j+1)):=by
   rw [List.drop_eq_getElem_cons bm,<-jE]
   simp only [mY,EC,List.map_cons,List.sum_cons,xl]
  have hP':jF qs pr ls n P1 (10+mY all (ks.drop (j+1))+EA (Si o.size) o):=by rw [ab7] at hP;exact hP.le oZ
  have BR:=US T fr p qs t pool tp pr n ls no V hV ok dE hall s al ra rd txg note g (txg+1) ic P1 _ a o D By _ ZX ZJ.1 hP' G C Al hG hC hA
  refine gs ?_
  refine gc BR ?_
  rintro _ _ ⟨P2,a',o',X,A',MH,Jj,⟨jl,cP,DP,dQ,cI,DX,r,LF,CF,VF,UL,AD,hM,hF,rfl⟩,rfl,G',C',jN,xE,bA,dY,rfl⟩
  obtain ⟨g1,g2,g3,g4,g5,g6⟩:=MH.Sh hz.2 ic ZX ZJ.1
  have hpp:=tQ a' o' jl cP DP dQ cI DX r UL AD oZ oZ
  refine gs ?_
  refine qM [[(a',xF o'.used o'.size o'.root (.slice jl o'.ay.length cP) (.slice dQ o'.index.length cI) r o'.clean)]] [0,4,8,12,16,20,24,28,32,36,40,44,48,53,57,60,65,71] ?_
  refine gc hpp ?_
  rintro _ _ ⟨jB,cq,Dq,rfl,hDq,rfl⟩
  refine gu ?_
  intro C6' h6'
  refine aeL eX.lay o'.slot (slotsOf os) kk 11 eX.aj ?_
  refine gu ?_
  intro C7' h7'
  have rO:((kk+1:Nat):Int)∉os.map (·.1):=by rw [hRk.1];exact UU
  have QI:((kk+1:Nat):Int)∉ds.map (·.1):=by rw [hRk.2];exact UU
  have hnO:((kk+1:Nat):Int)∉LO.map (·.1):=by rw [<-hVO.keys];exact rO
  have hnP:((kk+1:Nat):Int)∉LP.map (·.1):=by rw [<-hVP.keys];exact QI
  rw [<-AQ aeM rO]
  have aeN:eS wi (gM LO ((kk+1:Nat):Int) (ptr a')) (os++[(((kk+1:Nat):Int),o')]) (VO++([(a',xF o'.used o'.size o'.root (.slice jl o'.ay.length cP) (.slice dQ o'.index.length cI) r o'.clean)]++(DP++(DX++(CF++VF))))):=by
   rcases hVO.look ((kk+1:Nat):Int) with ⟨-, -,h3⟩ | ⟨v,x,W1,E1,W2, -,h2, -⟩
   ·rw [<-mW rO]
    exact h3 _ _ _ ⟨a',rfl,jl,cP,DP,dQ,cI,DX,r,LF,CF,VF,UL,AD,hM,hF,rfl⟩
   ·rw [j0 rO] at h2;cases h2
  have UW:eS PC (gM LP ((kk+1:Nat):Int) (.slice jB (bH (o'.ay++o'.index)).length cq)) (ds++[(((kk+1:Nat):Int),bH (o'.ay++o'.index))]) (VP++Dq):=by
   rcases hVP.look ((kk+1:Nat):Int) with ⟨-, -,h3⟩ | ⟨v,x,W1,E1,W2, -,h2, -⟩
   ·rw [<-mW QI]
    exact h3 _ _ _ hDq
   ·rw [j0 QI] at h2;cases h2
  refine gn ?_
  refine ⟨(j+1,P2,os++[(((kk+1:Nat):Int),o')],ds++[(((kk+1:Nat):Int),bH (o'.ay++o'.index))],_,_,C6',_,C7',_,V1++V2,G',C',jN),⟨by omega, ?_,Jj,h6',aeN,h7',UW,PQ,fun e he => ?_,fun e he => ?_,xE,bA,dY⟩,by simp only;omega,aq,_,aa⟩
  ·rw [aG ks bm,<-jE]
   exact .snoc hR xl MH
  ·rcases List.mem_append.1 he with he | he
   ·exact PX e he
   ·rw [List.mem_singleton.1 he]
    exact ⟨⟨fun hu=>(by rw [show o'.slot.used=o.used from g5,ZJ.2.2] at hu;cases hu),by rw [show o'.slot.size=o.size from g6];exact ZJ.2.1,g4.1,g4.2⟩,by simp only;omega,g3⟩
  ·rcases List.mem_append.1 he with he | he
   ·exact Br e he
   ·rw [List.mem_singleton.1 he]
    have:=k9 (o'.ay++o'.index)
    rw [List.length_append] at this
    simp only;omega
 ·obtain rfl:j=ks.length:=by omega
  rw [List.take_length] at hR hRk
  rw [List.drop_length,show mY all []=0 from rfl] at hP
  clear hVR
  obtain ⟨SL,Xc⟩:∃SL,SL=slotsOf os:=⟨_,rfl⟩
  have aab:SL.length=112:=by rw [Xc];exact eJ os
  rw [<-Xc]
  have Ho:=Tz [(g8,ax (SL.flatMap eX.lay) 134)] (some ⟨g8,0,none⟩) 112 112 SL aab (av (by rw [fN (lay:=eX.lay) (s:=11) eX.aj,aab]) (QG _) oZ 112) oZ (fun x hx=>by
   rw [Xc] at hx
   rcases sO hx with rfl | ⟨k,o,ho,rfl⟩
   ·exact va
   ·exact (PX _ (aI ho)).1)
  refine gc Ho ?_
  rintro _ _ ⟨g9,rfl,rfl⟩
  refine uM .i64 ?_;intro r15 Xd h15
  refine ga ?_;intro a15
  obtain ⟨TB,hTB⟩:∃TB,TB=fJ SL:=⟨_,rfl⟩
  have UX:TB.length=8064:=by rw [hTB,mG,aab]
  rw [<-hTB]
  have ab8:=Ts [(g9,ax (ak TB) 5)] (some ⟨g9,0,none⟩) 8064 8064 TB UX (av (by rw [ai,UX]) (aK _) oZ 8064) oZ oZ
  rw [show cY 8064 1024=8 from rfl] at ab8
  refine gc ab8 ?_
  rintro _ _ ⟨bI,cS,vs,DS,VS,rfl,UG,hVS,rfl⟩
  have hvl:vs.length=8:=by
   have h1:=hVS.len
   rw [show (eV TB).length=8 by simp [eV,dA,UX,cY]] at h1;exact h1
  have aac:=UG.rd
  have Mo:(je 0 vs).length=8:=by rw [kZ];exact hvl
  have ab9:(eV TB).length=8:=by simp [eV,dA,UX,cY]
  refine gl [0,1,5,6,7,15,80,81] (fun ((i,_):Nat×Chunk)=>[(82,.int .i64 i)]) (fun (_,Xd)=>[Xd]) (fun (i,Xd)=>i<=8/\Mp r15 .i64 ((je 0 vs).take i) Xd) (fun (i,_)=>8 - i) (0,Xd) ⟨by omega,h15⟩ ?_
  clear h15
  rintro ⟨i,Xd⟩ ⟨hi,h15⟩
  refine gi ?_ ?_ <;> intro pL
  ·have bm:i<8:=by omega
   obtain ⟨gS,oS,rfl⟩:=aac.addr oZ
   obtain ⟨A9,B9,E9,v9, -,hv9,hB9, -⟩:=hVS.at (i:=i) oZ
   obtain ⟨MF,c9,rfl⟩:=hB9.slice
   refine gu ?_
   intro aeO aca
   have rO:((i:Nat):Int)∉((je 0 vs).take i).map (·.1):=fun h=>by
    obtain ⟨e,he,e2⟩:=List.mem_map.1 h
    obtain ⟨j,hj,rfl⟩:=List.getElem_of_mem he
    rw [List.length_take] at hj
    rw [List.getElem_take,mX] at e2
    simp only at e2;omega
   rw [QE rO,show (je 0 vs).take i++[((i:Int),Value.slice MF (eV TB)[i].length c9)]=(je 0 vs).take (i+1) by
    rw [aG _ (show i<(je 0 vs).length by omega),mX]
    congr 3
    ·omega
    ·rw [List.getElem?_eq_getElem oZ] at hv9;exact (Option.some.inj hv9).symm] at aca
   refine gn ?_
   exact ⟨(i+1,aeO),⟨by omega,aca⟩,by simp only;omega,aq,_,aa⟩
  ·obtain rfl:i=8:=by omega
   rw [List.take_of_length_le oZ] at h15
   have hmg:eS lI (je 0 vs) (je 0 (eV TB)) VS:=QF 0 hVS
   have By:WZ a15 (iS TB) ([(a15,xF false 0 ah (.slice none 0 0) (.slice none 0 0) r15 false)]++([]++([]++(Xd++VS)))):=⟨none,0,[],none,0,[],r15,je 0 vs,Xd,VS,az.nil _ _,az.nil _ _,h15,hmg,rfl⟩
   have hmf:(iS TB).fresh.length=8:=by show (je 0 (eV TB)).length=8;rw [kZ];exact ab9
   have Lj:LD 8 (iS TB):=⟨fun e he=>by
    obtain ⟨j,hj,e1,e2⟩:=qx he
    have:=yR _ (List.mem_of_getElem? e2)
    omega,by rw [hmf];omega,by simp [iS],fun _ h=>(List.not_mem_nil h).elim,by simp [iS],by simp [iS,fB],by simp only [iS];exact dx⟩
   have BR:=Qz T fr p qs t pool tp pr n ls no V hV ok dE hall s al ra rd txg note g (txg+1) ic P1 0 a15 _ _ By rfl 8 oZ (hP.le (by rw [hmf];decide)) Lj.fk Lj.fl Lj.pl Lj.po G C Al hG hC hA
   refine gc BR ?_
   rintro _ _ ⟨P2,a2,mo,A2,hRm,Jj,⟨jl,cP,DP,dQ,cI,DX,r,LF,CF,VF,UL,AD,hM,hF,rfl⟩,rfl,G2,C2,Al2,hG2,Cu,lA,rfl⟩
   obtain ⟨g1,g2,g3,g4,g5,g6,g7⟩:=hRm.Sh hz.2 ic oZ Lj
   have hpp:=tQ a2 mo jl cP DP dQ cI DX r UL AD oZ oZ
   refine gs ?_
   refine gc hpp ?_
   rintro _ _ ⟨jB,cq,Dq,rfl,hDq,rfl⟩
   refine gu ?_
   intro C7' h7'
   have jH:=fun C' bA=>p3 (p:=p) (qs:=qs) (t:=t) (hV:=hV) (ok:=ok) (R:=P2.R) (C:=C') (hC:=bA) (ho:=Jj.lv) (hall:=hall)
   rw [wG Jj.on] at jH
   refine gc (jH C2 Cu) ?_
   rintro _ _ ⟨C3,rfl,km,rfl⟩
   have yo:=Jj.ws
   have af8:=Rk.iL P2.R (iH ls)
   have af9:=UQ (ls:=ls) ok.hw.2
   have Bn:=Ez T fr p qs t pool tp pr n ls no V hV ok hall (P2.R.run (iH ls)) C3 km (Jj.lv.run _) (Jj.on.run _) s (ptr al) ra rd txg note mo.root g4.1 g4.2 dT yi QC AO g7 oZ
   refine gc Bn ?_
   rintro _ _ ⟨rfl,C4,hC4,rfl⟩
   have Gv:=hR.go.trans hRm.go
   have acb:(0:Int)∉ds.map (·.1):=by
    rw [hRk.2]
    intro h
    obtain ⟨-, -,h1, -⟩:=hki _ h
    omega
   have UW:eS PC (gM LP 0 (.slice jB (bH (mo.ay++mo.index)).length cq)) (ds++[(0,bH (mo.ay++mo.index))]) (VP++Dq):=by
    rcases hVP.look 0 with ⟨-, -,h3⟩ | ⟨v,x,W1,E1,W2, -,h2, -⟩
    ·rw [<-mW acb]
     exact h3 _ _ _ hDq
    ·rw [j0 acb] at h2;cases h2
   have htu:=Z6 t pool tp pr n ls no V hV ok dE s al ra rd (txg+1) dT (aN pr ls.length 1024) rfl P2.x (Gv.ok hrx) Al2 lA oZ r6 r7 _ _ C7' (VP++Dq) h7' UW (fun e he=>by
    rcases List.mem_append.1 he with he | he
    ·exact Br e he
    ·rw [List.mem_singleton.1 he]
     have:=k9 (mo.ay++mo.index)
     rw [List.length_append] at this
     simp only;omega) Ld od CD VD hD hDV s7 (Z7.go Gv.ge)
   refine gc htu ?_
   rintro _ _ ⟨rfl,fs,Al3,zA,Aa,z8,u1,rfl⟩
   refine gs ?_
   refine gz ?_
   exact fin ⟨rfl,ks,os,_,P2,mo,fs,⟨P1,ds,by rw [mM];exact I6,hR,by rw [<-Xc,<-hTB];exact hRm,rfl,zA,Aa,z8⟩,r6,r7,LO,_,C6,VO,C7',_,C4,Al3,h6,hVO,h7',UW,Jj,hC4,u1,rfl⟩ aa
end
end Go.Proofs.YteldablklnfblaaGreatDoor
namespace Go.Sl
def jO (up:Pt->List Pt)(x:Pt):List Pt:=if x=ah then List.replicate 16 ah else up x
def ff (up:Pt->List Pt)(l:List Pt):List Pt:=l.flatMap (jO up)
structure QJ (R:Rk)(ls:List (Option Lv))(pr:Bool)(n:Nat)(up:Pt->List Pt)(x:Pt):Prop where
 Sj:K0 R ls pr n x (fS (up x))
 len:1<=(up x).length/\(up x).length<=16
 ok:∀y∈up x,fB y=0/\y.Ok
theorem LG {up:Pt->List Pt}{l:List Pt}{i:Nat}(h:i<l.length):ff up (l.take (i+1))=ff up (l.take i)++jO up l[i]:=by
 unfold ff
 rw [aG l h,List.flatMap_append,List.flatMap_singleton]
theorem qz {R:Rk}{ls:List (Option Lv)}{pr:Bool}{n:Nat}{up:Pt->List Pt}:∀ {l:List Pt},(∀x∈l,x≠ah->QJ R ls pr n up x)->(ff up l).length<=16*l.length
 | [],_=>by simp [ff]
 | x :: r,h=>by
  have ih:=qz (l:=r) fun y hy=>h y (List.mem_cons_of_mem _ hy)
  have hx:(jO up x).length<=16:=by
   unfold jO
   split
   ·simp
   ·exact (h x (List.mem_cons_self ..) (by assumption)).len.2
  simp only [ff,List.flatMap_cons,List.length_append,List.length_cons] at *
  omega
structure rW (R:Rk)(ls:List (Option Lv))(pr:Bool)(n:Nat)(up:Pt->List Pt)(x:Pt):Prop where
 top:x≠ah->QJ R ls pr n up x
 jY:x≠ah->(up x).length<=4
 kB:x≠ah->∀y∈up x,y≠ah->QJ R ls pr n up y
def lL (up:Pt->List Pt)(s:eX):Ob:=if s.root=ah then ⟨s.used,s.size,s.root,[],[],[],true⟩ else ⟨s.used,s.size,s.root,ff up (up s.root),up s.root++[s.root],[],true⟩
end Go.Sl
namespace Go.Proofs.YteldablklnfblaaGreatDoor
open Go.Sl
set_option maxRecDepth 10000
set_option maxHeartbeats 4000000
theorem aeP:(Builtin.zeroCells (Value.agg #[.int .i64 0,.int .i64 0,.int .i64 0,.int .u64 0,.int .i64 0,.int .u64 0,.int .u64 0,.int .u64 0,.int .u64 0]).cells 16).toList=(List.replicate 16 ah).flatMap Pt.lay:=by kernel_rfl
section
variable (T:TypeId)(fr:Nat×Nat)(p:Nat)(qs:List Nat)(t pool:Nat)(tp:Tp)(pr:Bool)(n:Nat)(ls:List (Option Lv))(no:Nat)(V:Chunk)(hV:jb t pool tp pr n ls no V)(ok:dK tp pr n ls.length)(R:Rk)(C:Chunk)(hC:bq p qs R C)(ho:dJ qs R n ls)(hall:∀x∈ls,x≠none)(bZ:R.off=false)
include hV ok hC ho hall bZ
theorem UY (up:Pt->List Pt)(l:List Pt)(hl:l.length<=16)(h:∀x∈l,x≠ah->QJ R ls pr n up x)(O:Chunk)(ad:Option Addr)(c:Nat)(hO:Rd O 9 (.slice ad l.length c) l.length (aO l)) :
  Ct 125 [ptr t,.slice ad l.length c] [gK T fr,C,V,O] fun u Bs=>∃ba c' D,u = .tuple #[.slice ba (ff up l).length c',.int .i64 0]/\az D 108 9 (.slice ba (ff up l).length c') (ff up l).length (aO (ff up l))/\Bs=[D,gK T fr,C,V,O]:=by
 have wh:=fun i=>qz (R:=R) (ls:=ls) (pr:=pr) (n:=n) (up:=up) (l:=l.take i) fun x hx=>h x (List.mem_of_mem_take hx)
 refine st Tryz.func125 fun w0 => ?_
 refine gl [0,12,13] (fun ((i,v6,_):Nat×Value×Chunk)=>[(14,.int .i64 i),(6,v6)]) (fun (_,_,D)=>[D]) (fun (i,v6,D)=>i<=l.length/\(∃ad c,v6 = .slice ad (ff up (l.take i)).length c)/\az D 108 9 v6 (ff up (l.take i)).length (aO (ff up (l.take i)))) (fun (i,_)=>l.length - i) (0,.slice none 0 0,[]) ⟨by omega,⟨none,0,rfl⟩,az.nil _ _⟩ ?_
 rintro ⟨i,v6,D⟩ ⟨hi,⟨Gi,c6,rfl⟩,hD⟩
 have hb:=wh i
 rw [List.length_take] at hb
 refine gi ?_ ?_ <;> intro bo
 ·have bm:i<l.length:=by omega
  obtain ⟨g,off,rfl⟩:=hO.addr oZ
  obtain ⟨x,hx⟩:∃x,x=l[i]:=⟨_,rfl⟩
  have hs:=ar (lay:=Pt.lay) (s:=9) (fun _=>rfl) l i x (by rw [hx];simp)
  have cw:ff up (l.take (i+1))=ff up (l.take i)++jO up x:=by rw [LG bm,<-hx]
  refine ga ?_;intro b8
  refine gi ?_ ?_ <;> intro hz
  ·have GZ:x=ah:=(Pt.ext_iff x ah).2 (by simpa [ah] using hz)
   have y6:jO up x=List.replicate 16 ah:=if_pos GZ
   rw [y6] at cw
   refine gpn ?_;intro sX c7 D7 hD7
   have jj:(ff up (l.take (i+1))).length=(ff up (l.take i)).length+16:=by rw [cw];simp
   refine gn ?_
   exact ⟨(i+1,_,D7),⟨by omega,⟨sX,c7,by rw [jj]⟩,by rw [jj,cw,aO,List.flatMap_append,<-aeP];exact hD7⟩,by simp only;omega,aq,_,aa⟩
  ·have GZ:x≠ah:=fun e=>by rw [e] at hz;simp [ah] at hz
   have hu:=h x (by rw [hx];exact List.getElem_mem _) GZ
   have y6:jO up x=up x:=if_neg GZ
   rw [y6] at cw
   have hlen:=hu.len
   have pc:=PG T fr p qs t pool tp pr n ls no V hV ok R C hC ho hall bZ x _ hu.Sj
   refine gc pc ?_
   rintro _ _ ⟨Se,O',rfl,hO',rfl⟩
   obtain ⟨k,hk⟩:∃k,k=(up x).length:=⟨_,rfl⟩
   have JF:(fS (up x)).length=64*k:=by rw [ju,hk]
   rw [JF] at hO' ⊢
   refine gc (Ov O' Se _ _ k (up x) hk.symm rfl hO' (Nat.le_refl _) oZ hu.ok) ?_
   rintro _ _ ⟨MF,c9,D9,rfl,FD,rfl⟩
   refine gp ?_;intro sX c7 D7 hD7
   have jj:(ff up (l.take (i+1))).length=(ff up (l.take i)).length+k:=by rw [cw,List.length_append,hk]
   refine gn ?_
   exact ⟨(i+1,_,D7),⟨by omega,⟨sX,c7,by rw [jj]⟩,by rw [jj,cw];simpa [aO] using hD7⟩,by simp only;omega,aq,_,aa⟩
 ·obtain rfl:i=l.length:=by omega
  rw [List.take_length] at hD ⊢
  refine gz ?_
  exact fin ⟨Gi,c6,D,rfl,hD,rfl⟩ aa
theorem QK (up:Pt->List Pt)(s:eX)(h:rW R ls pr n up s.root) :
  Ct 68 [ptr t,s.agg] [gK T fr,C,V] fun u Bs=>∃a A,WZ a (lL up s) A/\u = .tuple #[ptr a,.int .i64 0]/\Bs=[A,gK T fr,C,V]:=by
 have hlc:=fun l hl hh O ad c hO=>UY T fr p qs t pool tp pr n ls no V hV ok R C hC ho hall bZ up l hl hh O ad c hO
 obtain ⟨us,sz,x⟩:=s
 simp only at h
 refine st Tryz.func68 fun w0 => ?_
 refine ga ?_;intro b3
 refine uM .i64 ?_;intro r6 C6 h6
 refine ga ?_;intro a6
 refine gi ?_ ?_ <;> intro hz
 ·have GZ:x=ah:=(Pt.ext_iff x ah).2 (by simpa [ah] using hz)
  have e:lL up ⟨us,sz,x⟩=⟨us,sz,x,[],[],[],true⟩:=if_pos GZ
  rw [e]
  refine gz ?_
  exact fin ⟨a6,_,⟨none,0,[],none,0,[],r6,[],C6,[],az.nil _ _,az.nil _ _,h6,rfl,rfl⟩,rfl,rfl⟩ aa
 ·have GZ:x≠ah:=fun e=>by rw [e] at hz;simp [ah] at hz
  have e:lL up ⟨us,sz,x⟩=⟨us,sz,x,ff up (up x),up x++[x],[],true⟩:=if_neg GZ
  have hu:=h.top GZ
  have hf:=h.jY GZ
  have y6:=h.kB GZ
  have tt:ff up [x]=up x:=by simp [ff,jO,GZ]
  have jj:(ff up (up x)).length<=64:=by have:=qz (l:=up x) y6;omega
  rw [e]
  refine gm ?_;intro b24
  have hc1:=hlc [x] (by simp) (fun y hy hy0=>by rw [List.mem_singleton.1 hy];exact hu) [(b24,ax x.lay 108)] (some ⟨b24,0,none⟩) 1 (by simpa [aO] using av (xs:=x.lay) (by rw [Pt.aj]) (fun u hu=>Ey [x] u (by simpa [aO] using hu)) (by simp) _)
  rw [tt] at hc1
  refine gc hc1 ?_
  rintro _ _ ⟨WV,cU,DU,rfl,hDU,rfl⟩
  have WG:=hlc (up x) oZ y6 DU WV cU hDU.rd
  refine Zz [[(b3,ax (⟨us,sz,x⟩:eX).lay 134)]] (aA.cons (0,0) (aA.cons (1,0) (aA.cons (3,0) (aA.cons (4,0) (aA.fork 2 (aA.y7 [(5,1),(6,1),(7,0),(8,0),(9,3)]) 5 (aA.y7 [(2,1),(6,1),(7,0),(8,0),(9,3)])))))) ?_
  refine gk ?_ ?_
  case' refine_1 =>
   refine gc (ep DU WV _ cU _ hDU.rd oZ) ?_
   rintro _ _ ⟨adC,cC,DC,rfl,hDC,rfl⟩
   refine gm ?_;intro b36
  case' refine_2 =>
   refine gm ?_;intro b36
   refine gc (ep DU WV _ cU _ hDU.rd oZ) ?_
   rintro _ _ ⟨adC,cC,DC,rfl,hDC,rfl⟩
  all_goals
   refine gp ?_;intro dQ cI DI Zl
   refine gc WG ?_
   rintro _ _ ⟨jl,cP,DP,rfl,hDP,rfl⟩
   refine gz ?_
   have bm:(up x++[x]).length=(up x).length+1:=by simp
   exact fin ⟨a6,_,⟨jl,cP,DP,dQ,cI,DI,r6,[],C6,[],hDP,by rw [bm];simpa [aO,Pt.lay] using Zl,h6,rfl,rfl⟩,rfl,rfl⟩ (by simp only [bm];exact aa)
end
end Go.Proofs.YteldablklnfblaaGreatDoor
