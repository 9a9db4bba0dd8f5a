/-
  13.
-/
import Derived.Test.YtpabnmeponmonaaGreatDoorZTopCrashes12
set_option maxRecDepth 10000
set_option maxHeartbeats 4000000
open List Go.Proofs.Tryz Go.Sl
namespace Go.Sl
def xo (b:Nat×List UInt8)(s:eE):Nat×List UInt8:=if ig s&&decide (b.1<fN s) then (fN s,Lr s) else b
def rh (R:Rk)(ls:List (Option Lv))(k j:Nat):Nat×List UInt8:=(ls.take j).foldl (fun b o=>match o with | some x=>xo b (R.now x.i (18+k)) | none=>b) (0,replicate 88 0)
def xp (R:Rk)(ls:List (Option Lv))(k:Nat):List UInt8:=if R.off then replicate 88 0 else (rh R ls k ls.length).2
theorem xq {R:Rk}{ls:List (Option Lv)}{k j:Nat}{x:Lv}(h:ls[j]? = some (some x)):rh R ls k (j+1)=xo (rh R ls k j) (R.now x.i (18+k)):=by
 obtain ⟨jQ,he⟩:=List.getElem?_eq_some_iff.1 h
 unfold rh
 rw [take_succ_eq_append_getElem jQ,he,foldl_append];rfl
theorem zz {R:Rk}{ls:List (Option Lv)}{k:Nat}(h:∀x,some x∈ls->(R.now x.i (18+k)).length=128):∀j,(rh R ls k j).2.length=88:=by
 intro j
 unfold rh
 have:∀(l:List (Option Lv)) (b:Nat×List UInt8),(∀x,some x∈l->(R.now x.i (18+k)).length=128)->b.2.length=88->(l.foldl (fun b o=>match o with | some x=>xo b (R.now x.i (18+k)) | none=>b) b).2.length=88:=by
  intro l
  induction l with
  | nil=>intro b _ hb;exact hb
  | cons o l ih =>
   intro b hl hb
   rw [foldl_cons]
   refine ih _ (fun x hx=>hl x (mem_cons_of_mem _ hx)) ?_
   rcases o with _ | x
   ·exact hb
   ·simp only [xo]
    split
    ·exact AQ (hl x (mem_cons_self ..))
    ·exact hb
 exact this _ _ (fun x hx=>h x (mem_of_mem_take hx)) (by simp)
def pA (s:List UInt8)(o:Nat)(b:List UInt8):List UInt8:=s.take o++b.take (min b.length (88 - o))++s.drop (o+min b.length (88 - o))
theorem zA {s b:List UInt8}{o:Nat}(hs:s.length=88)(ho:o<88):(pA s o b).length=88:=by simp [pA,hs];omega
def j9 (ls:List (Option Lv))(k no:Nat)(s:List UInt8)(i:Nat):List Ev:=match ls[i]? with
 | some (some x)=>gG x.i (18+k) [jw no s]
 | _=>[]
theorem Fa (ls:List (Option Lv))(k no:Nat)(s:List UInt8)(i:Nat):(j9 ls k no s i).length<=1:=by
 unfold j9;split
 ·rw [eT];simp
 ·simp
def dG (ls:List (Option Lv)):Nat->Rk->Nat->Nat->List UInt8->Rk×Nat
 | 0,R,no,_,_=>(R,no)
 | f+1,R,no,at_,b=>if b=[] then (R,no) else
  let R':=R.run (upto (j9 ls (at_ / 88) no (pA (xp R ls (at_ / 88)) (at_ % 88) b)) ls.length)
  if R'.off then (R',no) else dG ls f R' (no+1) (at_+min b.length (88 - at_ % 88)) (b.drop (min b.length (88 - at_ % 88)))
theorem zB (ls:List (Option Lv)):∀(f f':Nat) (R:Rk) (no at_:Nat) (b:List UInt8),b.length<=f->b.length<=f'->dG ls f R no at_ b=dG ls f' R no at_ b
 | 0,0,_,_,_,_,_,_=>rfl
 | 0,f'+1,R,no,at_,b,h,_=>by
  obtain rfl:=eq_nil_of_length_eq_zero (by omega:b.length=0)
  simp [dG]
 | f+1,0,R,no,at_,b,_,h=>by
  obtain rfl:=eq_nil_of_length_eq_zero (by omega:b.length=0)
  simp [dG]
 | f+1,f'+1,R,no,at_,b,h,h'=>by
  unfold dG
  by_cases hb:b=[]
  ·rw [if_pos hb,if_pos hb]
  ·rw [if_neg hb,if_neg hb]
   have:0<b.length:=length_pos_iff.2 hb
   have hd:(b.drop (min b.length (88 - at_ % 88))).length+1<=b.length:=by rw [length_drop];omega
   simp only
   rw [zB ls f f' _ _ _ _ oZ oZ]
theorem Vq {R:Rk}{ls:List (Option Lv)}{k:Nat}(h:∀x,some x∈ls->(R.now x.i (18+k)).length=128):(xp R ls k).length=88:=by
 unfold xp;split
 ·simp
 ·exact zz h _
end Go.Sl
namespace Go.Proofs.YtpabnmeponmonaaGreatDoor
section
variable (T:TypeId)(fr:Nat×Nat)(p:Nat)(qs:List Nat)(t pool:Nat)(tp:Tp)(pr:Bool)(n:Nat)(ls:List (Option Lv))(no:Nat)(V:Chunk)(hV:iZ t pool tp pr n ls no V)(ok:dj tp pr n ls.length)(hall:∀x∈ls,x≠none)
include hV ok hall
theorem Fb (R:Rk)(C:Chunk)(hC:bj p qs R C)(ho:dE qs R n ls)(k:Nat)(hk:k<256):Ct 181 [ptr t,.int .i64 k] [gK T fr,C,V] fun u Bs=>∃g,u = .slice (some ⟨g,0,none⟩) 88 88/\Bs=[[(g,ax (au (xp R ls k)) 5)],gK T fr,C,V]:=by
 have ha:=HE t pool tp pr n ls no V hV ok hall
 have kA:=ok.hw
 have hn:=ok.hn
 have fS:∀x,some x∈ls->(R.now x.i (18+k)).length=128:=fun x hx=>by
  obtain ⟨o1,o2,o3⟩:=ho x hx
  exact (lq hC.ok (i:=x.i) (a:=18+k) oZ).2
 have hlen:=zz fS
 obtain ⟨F,hF⟩:∃F:Nat->Nat×List UInt8,F=fun j=>if R.off then (0,replicate 88 0) else rh R ls k j:=⟨_,rfl⟩
 have hF0:F 0=(0,replicate 88 0):=by rw [hF];simp only;split <;> rfl
 have hFl:∀j,(F j).2.length=88:=fun j=>by rw [hF];simp only;split <;> first | exact hlen j | simp
 have hFe:(F ls.length).2=xp R ls k:=by rw [hF];unfold xp;simp only;split <;> rfl
 rw [<-hFe]
 refine st func181 fun w0 => ?_
 refine gm ?_;intro g
 rw [show replicate 88 (Value.int .u8 0)=au (F 0).2 by rw [hF0];exact PU 88]
 refine gc ha ?_
 rintro _ _ ⟨Ca,XT,rfl⟩
 obtain ⟨m,M,jj,cT,DT,eb,cI,DI,kB,cL,DL,pO,cl,Dl,vD,DD,L,hT,hI,xW,hl,hM,hL,rfl⟩:=hV
 obtain ⟨XE,ca,rfl⟩:=XT.slice
 have har:=XT.rd
 obtain ⟨ga_,oa,rfl⟩:=har.addr oZ
 refine gs ?_
 refine gl [1,5,14,15] (fun ((j,z):Nat×Nat)=>[(16,.int .i64 j),(6,.int .u64 z)]) (fun (j,_)=>[[(g,ax (au (F j).2) 5)]]) (fun (j,z)=>j<=ls.length/\z=(F j).1) (fun (j,_)=>ls.length - j) (0,0) ⟨by omega,by rw [hF0]⟩ ?_
 rintro ⟨j,z⟩ ⟨hj,rfl⟩
 refine gi ?_ ?_ <;> intro br
 ·obtain ⟨oy,hy⟩:=eC (l:=ls) (i:=j) oZ
  rcases oy with _ | y
  ·exact absurd rfl (hall _ (mem_of_getElem? hy))
  obtain ⟨o1,o2,o3⟩:=ho y (mem_of_getElem? hy)
  have bX:(ls.map iQ)[j]? = some (ptr y.a):=by rw [getElem?_map,hy];rfl
  have rR:R.off=false->F (j+1)=xo (F j) (R.now y.i (18+k)):=fun h=>by rw [hF];simp only [h];exact xq hy
  have hny:R.off=true->F (j+1)=F j:=fun h=>by rw [hF];simp only [h];rfl
  have hsy:=fS y (mem_of_getElem? hy)
  have hFj:=hFl j
  obtain ⟨A,L1,B,qS,rfl⟩:=hL.at hy
  refine gs ?_
  refine gc (Jr T fr p qs R C hC y.i y.q n y.a _ L1 qS o1 o2 o3 k hk oZ) ?_
  rintro _ _ (⟨dS,rfl,rfl⟩ | ⟨dS,jL,rfl,rfl⟩ | ⟨dS,jL,g2,rfl,rfl⟩)
  ·have e:=hny dS
   refine gn ?_
   exact ⟨(j+1,(F j).1),⟨by omega,by rw [e]⟩,sOZ,ar,_,by simp only [e];exact aa⟩
  ·have e:F (j+1)=F j:=by rw [rR dS,xo,jL];rfl
   refine gn ?_
   exact ⟨(j+1,(F j).1),⟨by omega,by rw [e]⟩,sOZ,ar,_,by simp only [e];exact aa⟩
  ·have hb:=AQ hsy
   generalize R.now y.i (18+k)=s at *
   refine gi ?_ ?_ <;> intro eV
   ·have e:F (j+1)=(fN s,Lr s):=by rw [rR dS,xo,jL,decide_eq_true (show (F j).1<fN s by omega)];rfl
    have Ek:(au (F j).2).take 0++(au (Lr s)).take (min 88 88)++(au (F j).2).drop (0+min 88 88)=au (F (j+1)).2:=by
     rw [Nat.min_self,take_zero,nil_append,take_of_length_le (by rw [aq];omega),drop_of_length_le (by rw [aq];omega),append_nil,e]
    have hg2:Rd [(g2,ax (au (Lr s)) 5)] 1 (.slice (some ⟨g2,0,none⟩) 88 88) 88 (au (Lr s)):=ay (by rw [aq,hb]) (aP _) oZ _
    refine gy ?_
    refine gn ?_
    exact ⟨(j+1,fN s),⟨by omega,by rw [e]⟩,sOZ,ar,_,aa⟩
   ·have e:F (j+1)=F j:=by rw [rR dS,xo,jL,decide_eq_false (show ¬(F j).1<fN s by omega)];rfl
    refine gn ?_
    exact ⟨(j+1,(F j).1),⟨by omega,by rw [e]⟩,sOZ,ar,_,by simp only [e];exact aa⟩
 ·obtain rfl:j=ls.length:=oZ
  refine gz ?_
  exact fin ⟨g,rfl,rfl⟩ aa
end
theorem JS (a b:Nat)(h:a+b<=22528):Ct 180 [.int .i64 a,.int .i64 b] [] fun u Bs=>u = .bool true/\Bs=[]:=by
 have hs:IntKind.i64.wrap (22528 - (a:Int))=((22528 - a:Nat):Int):=by rw [IntWalk.i64_in _ oZ];omega
 refine st func180 fun w0 => ?_
 refine gz ?_
 rw [decide_eq_true oZ]
 exact fin ⟨rfl,rfl⟩ aa
section
variable (T:TypeId)(fr:Nat×Nat)(p:Nat)(qs:List Nat)(t pool:Nat)(tp:Tp)(pr:Bool)(n:Nat)(ls:List (Option Lv))(no:Nat)(V:Chunk)(hV:iZ t pool tp pr n ls no V)(ok:dj tp pr n ls.length)(hall:∀x∈ls,x≠none)
include hV ok hall
theorem HT (R0:Rk)(C:Chunk)(hC:bj p qs R0 C)(ho:dE qs R0 n ls)(at_:Nat)(b0:List UInt8)(m:Nat)(hm:b0.length=m)(ha:at_+m<=22528)(gf:1<=no/\no+m<=281474976710656)(hw:R0.ws.length+5*m<=900000000000)(O:Chunk)(Jw:Option Addr)(co:Nat)(hO:Rd O 1 (.slice Jw m co) m (au b0))(Vl:m<=co) :
  Ct 121 [ptr t,.int .i64 at_,.slice Jw m co] [gK T fr,C,V,O] fun u Bs=>∃C' V',u = .int .i64 (if b0≠[]/\(dG ls m R0 no at_ b0).1.off=true then 5 else 0)/\bj p qs (dG ls m R0 no at_ b0).1 C'/\iZ t pool tp pr n ls (dG ls m R0 no at_ b0).2 V'/\Bs=[gK T fr,C',V',O]:=by
 have kA:=ok.hw
 have hn:=ok.hn
 obtain ⟨dm,M,jj,cT,DT,eb,cI,DI,kB,cL,DL,pO,cl,Dl,vD,DD,L,hT,hI,xW,hl,hM,hL,rfl⟩:=hV
 have hV:∀no,iZ t pool tp pr n ls no ([(t,EI pool (.slice jj 1 cT) (.slice eb 1 cI) (.slice kB 1 cL) vD no)]++(DT++(DI++(DL++(Dl++(DD++(M++L))))))):=fun no=>⟨dm,M,jj,cT,DT,eb,cI,DI,kB,cL,DL,pO,cl,Dl,vD,DD,L,hT,hI,xW,hl,hM,hL,rfl⟩
 obtain ⟨res,Fc⟩:∃res,res=dG ls m R0 no at_ b0:=⟨_,rfl⟩
 rw [<-Fc]
 refine st func121 fun w0 => ?_
 refine gs ?_
 refine gc (JS at_ m ha) ?_
 rintro _ _ ⟨rfl,rfl⟩
 refine gl [0] (fun ((_,_,at_,_,_,m,ad,c):Rk×Nat×Nat×List UInt8×Chunk×Nat×Option Addr×Nat)=>[(1,.int .i64 at_),(2,.slice ad m c)]) (fun (_,no,_,_,C,_,_,_)=>[C,[(t,EI pool (.slice jj 1 cT) (.slice eb 1 cI) (.slice kB 1 cL) vD no)]]) (fun (R,no,at_,b,C,m,ad,c)=>res=dG ls m R no at_ b/\b.length=m/\at_+m<=22528/\(1<=no/\no+m<=281474976710656)/\R.ws.length+5*m<=900000000000/\bj p qs R C/\dE qs R n ls/\Rd O 1 (.slice ad m c) m (au b)/\m<=c/\(b0=[]->b=[])/\(b=[]->b0≠[]->R.off=false)) (fun (_,_,_,_,_,m,_)=>m) (R0,no,at_,b0,C,m,Jw,co) ⟨Fc,hm,ha,gf,hw,hC,ho,hO,Vl,(fun h=>h),(fun h h'=>absurd h h')⟩ ?_
 rintro ⟨R,no,at_,b,C,m,ad,c⟩ ⟨Fc,hm,ha,gf,hw,hC,ho,hO,Lj,NH,jx⟩
 refine gi ?_ ?_ <;> intro br
 ·have XW:b≠[]:=fun h=>by rw [h] at hm;simp at hm;omega
  have acI:b0≠[]:=fun h=>XW (NH h)
  obtain ⟨m',rfl⟩:∃m',m=m'+1:=⟨m - 1,by omega⟩
  obtain ⟨gO,oO,rfl⟩:=hO.addr oZ
  have hk:at_ / 88<256:=oZ
  have fS:∀x,some x∈ls->(R.now x.i (18+at_ / 88)).length=128:=fun x hx=>by
   obtain ⟨o1,o2,o3⟩:=ho x hx
   exact (lq hC.ok (i:=x.i) (a:=18+at_ / 88) oZ).2
  have hSl:=Vq fS
  have acJ:at_ % 88<88:=oZ
  obtain ⟨S,hS⟩:∃S,S=xp R ls (at_ / 88):=⟨_,rfl⟩
  have l8:=Fb T fr p qs t pool tp pr n ls no _ (hV no) ok hall R C hC ho (at_ / 88) hk
  rw [<-hS] at hSl l8
  have rS:(pA S (at_ % 88) b).length=88:=zA hSl acJ
  obtain ⟨X,hX⟩:∃X,X=pA S (at_ % 88) b:=⟨_,rfl⟩
  have Ek:(au S).take (at_ % 88)++(au b).take (min (m'+1) (88 - at_ % 88))++(au S).drop (at_ % 88+min (m'+1) (88 - at_ % 88))=au X:=by
   rw [hX,pA,hm,aQ,aQ,bo,aG,aG]
  rw [<-hX] at rS
  have hSb:(au S).length=88:=by rw [aq,hSl]
  obtain ⟨RX,hRX⟩:∃RX,RX=R.run (upto (j9 ls (at_ / 88) no X) ls.length):=⟨_,rfl⟩
  have pj:res=if RX.off then (RX,no) else dG ls m' RX (no+1) (at_+min (m'+1) (88 - at_ % 88)) (b.drop (min (m'+1) (88 - at_ % 88))):=by
   rw [Fc,dG,if_neg XW];simp only [<-hS,<-hX,hm,<-hRX]
  have gH:∀k,(j9 ls (at_ / 88) no X k).length<=1:=Fa ls _ _ _
  have ha:=HE t pool tp pr n ls no _ (hV no) ok hall
  refine gc l8 ?_
  rintro _ _ ⟨g,rfl,rfl⟩
  refine gs ?_
  refine gv ?_
  refine gy ?_
  refine gc ha ?_
  rintro _ _ ⟨Ca,XT,rfl⟩
  obtain ⟨XE,ca,rfl⟩:=XT.slice
  have har:=XT.rd
  obtain ⟨ga_,oa,rfl⟩:=har.addr oZ
  refine gs ?_
  refine gl [0,1,2,7,8,9,33,34] (fun ((j,z,_):Nat×Nat×Chunk)=>[(35,.int .i64 j),(10,.int .i64 z)]) (fun (_,_,C)=>[C]) (fun (j,z,C)=>j<=ls.length/\z=(if j=0 then 4 else 0)/\bj p qs (R.run (upto (j9 ls (at_ / 88) no X) j)) C/\(0<j->(R.run (upto (j9 ls (at_ / 88) no X) j)).off=false)) (fun (j,_)=>ls.length - j) (0,4,C) ⟨by omega,rfl,hC,(fun h=>by cases h)⟩ ?_
  rintro ⟨j,z,C⟩ ⟨hj,hz,hC,hjo⟩
  refine gi ?_ ?_ <;> intro qI
  ·obtain ⟨oy,hy⟩:=eC (l:=ls) (i:=j) oZ
   rcases oy with _ | y
   ·exact absurd rfl (hall _ (mem_of_getElem? hy))
   obtain ⟨o1,o2,o3⟩:=ho.run (upto (j9 ls (at_ / 88) no X) j) y (mem_of_getElem? hy)
   have bX:(ls.map iQ)[j]? = some (ptr y.a):=by rw [getElem?_map,hy];rfl
   have sM:=Rk.eS R (upto (j9 ls (at_ / 88) no X) j)
   have Ao:=bY gH j
   have ya:j9 ls (at_ / 88) no X j=gG y.i (18+at_ / 88) [jw no X]:=by unfold j9;rw [hy]
   obtain ⟨A,L1,B,qS,rfl⟩:=hL.at hy
   have hgX:Rd [(g,ax (au X) 5)] 1 (.slice (some ⟨g,0,none⟩) 88 88) 88 (au X):=ay (by rw [aq,rS]) (aP _) oZ _
   have mX:=PN T fr p qs _ C hC y.i y.q n y.a _ L1 qS o1 o2 o3 hn (at_ / 88) no X _ _ hk oZ rS hgX oZ
   rw [<-ya,<-ea] at mX
   refine gs ?_
   refine gc mX ?_
   rintro _ _ ⟨C',rfl,bF,rfl⟩
   cases dS:(R.run (upto (j9 ls (at_ / 88) no X) (j+1))).off with
   | true =>
    refine gz ?_
    have e:=jX dS (by omega:j+1<=ls.length)
    rw [<-hRX] at e
    have bB:res=(RX,no):=by rw [pj,if_pos (by rw [e];exact dS)]
    rw [bB,if_pos ⟨acI,by rw [e];exact dS⟩]
    exact fin ⟨C',_,rfl,by rw [e];exact bF,hV no,rfl⟩ aa
   | false =>
    refine gn ?_
    exact ⟨(j+1,0,C'),⟨by omega,by simp,bF,fun _=>dS⟩,sOZ,ar,_,aa⟩
  ·obtain rfl:j=ls.length:=oZ
   rw [if_neg oZ] at hz
   subst hz
   have hjo:=hjo oZ
   have sM:=Rk.eS R (upto (j9 ls (at_ / 88) no X) ls.length)
   have Ao:=bY gH ls.length
   have xS:=ho.run (upto (j9 ls (at_ / 88) no X) ls.length)
   rw [<-hRX] at hjo hC sM xS
   rw [if_neg (by rw [hjo];simp)] at pj
   obtain ⟨cc,hcc⟩:∃cc,cc=min (m'+1) (88 - at_ % 88):=⟨_,rfl⟩
   rw [<-hcc] at pj
   have ag9:1<=cc/\cc<=m'+1:=oZ
   have ny:(b.drop cc).length=m'+1 - cc:=by rw [length_drop,hm]
   have qc:((au b).drop (cc*1)).take ((m'+1 - cc)*1)=au (b.drop cc):=by rw [Nat.mul_one,bo,Nat.mul_one,take_of_length_le (by rw [aq,ny];omega)]
   have XX:b.drop cc=[]->b0≠[]->RX.off=false:=fun _ _=>hjo
   have afl:b0=[]->b.drop cc=[]:=fun h=>absurd h acI
   rw [zB ls m' (m'+1 - cc) _ _ _ _ oZ oZ] at pj
   rw [<-hcc]
   refine gw ?_;intro sF hR5
   refine gn ?_
   exact ⟨(RX,no+1,at_+cc,b.drop cc,C,m'+1 - cc,sF,c - cc),⟨pj,ny,by omega,by omega,by omega,hC,xS,hR5,by omega,afl,XX⟩,sOZ,ar,_,aa⟩
 ·obtain rfl:b=[]:=eq_nil_of_length_eq_zero oZ
  have Li:res=(R,no):=by rw [Fc];cases m <;> simp [dG]
  have hz:¬(b0≠[]/\res.1.off=true):=fun ⟨h1,h2⟩=>by rw [Li,jx rfl h1] at h2;cases h2
  rw [if_neg hz,Li]
  refine gz ?_
  exact fin ⟨C,_,rfl,hC,hV no,rfl⟩ aa
end
end Go.Proofs.YtpabnmeponmonaaGreatDoor
namespace Go.Sl
theorem Fe {α:Type}{f:Nat->List α}{s:Nat}:∀(n q:Nat) (a:Nat),q<=n->(∀k,(f k).length=s)->(((List.range' a n).flatMap f).drop (q*s))=(List.range' (a+q) (n - q)).flatMap f
 | n,0,a,_,_=>by simp
 | n+1,q+1,a,h,hs=>by
  rw [range'_succ,flatMap_cons,show (q+1)*s=(f a).length+q*s by rw [hs,Nat.add_mul];omega,<-drop_drop,drop_left,Fe n q (a+1) oZ hs]
  congr 2 <;> omega
theorem Mu {α:Type}{f:Nat->List α}{s n x c:Nat}(hs:∀k,(f k).length=s)(h0:0<s)(hx:x / s<n)(hc:c<=s - x % s):(((List.range n).flatMap f).drop x).take c=((f (x / s)).drop (x % s)).take c:=by
 have e:x=x / s*s+x % s:=by rw [Nat.mul_comm];exact (Nat.div_add_mod x s).symm
 have hm:=Nat.mod_lt x h0
 rw [range_eq_range']
 conv=>lhs;rw [e]
 rw [<-drop_drop,Fe n (x / s) 0 oZ hs,Nat.zero_add]
 obtain ⟨r,hr⟩:∃r,n - x / s=r+1:=⟨n - x / s - 1,by omega⟩
 rw [hr,range'_succ,flatMap_cons,drop_append_of_le_length (by rw [hs];omega),take_append_of_le_length (by rw [length_drop,hs];omega)]
def bp (R:Rk)(ls:List (Option Lv)):List UInt8:=(List.range 256).flatMap (xp R ls)
theorem HU {R:Rk}{ls:List (Option Lv)}(h:∀k,(xp R ls k).length=88):(bp R ls).length=22528:=by
 have:∀n a,((List.range' a n).flatMap (xp R ls)).length=n*88:=by
  intro n
  induction n with
  | zero=>intro a;rfl
  | succ n ih=>intro a;rw [range'_succ,flatMap_cons,length_append,h,ih];omega
 rw [bp,range_eq_range',this]
end Go.Sl
namespace Go.Proofs.YtpabnmeponmonaaGreatDoor
section
variable (T:TypeId)(fr:Nat×Nat)(p:Nat)(qs:List Nat)(t pool:Nat)(tp:Tp)(pr:Bool)(n:Nat)(ls:List (Option Lv))(no:Nat)(V:Chunk)(hV:iZ t pool tp pr n ls no V)(ok:dj tp pr n ls.length)(hall:∀x∈ls,x≠none)
include hV ok hall
theorem Mv (R:Rk)(C:Chunk)(hC:bj p qs R C)(ho:dE qs R n ls)(at_ m:Nat)(ha:at_+m<=22528)(hS:∀k,(xp R ls k).length=88) :
  Ct 125 [ptr t,.int .i64 at_,.int .i64 m] [gK T fr,C,V] fun u Bs=>(R.off=true/\u = .tuple #[.slice none 0 0,.int .i64 5]/\Bs=[gK T fr,C,V]) \/
   (R.off=false/\∃ad c D,u = .tuple #[.slice ad m c,.int .i64 0]/\aC D 5 1 (.slice ad m c) m (au (((bp R ls).drop at_).take m))/\Bs=[D,gK T fr,C,V]):=by
 have hd:=Vg p qs t pool tp pr n ls no V hV ok hall R C hC ho
 refine st func125 fun w0 => ?_
 refine gc (JS at_ m ha) ?_
 rintro _ _ ⟨rfl,rfl⟩
 refine gc hd ?_
 rintro _ _ ⟨rfl,rfl⟩
 cases jx:R.off with
 | true =>
  refine gz ?_
  exact fin (.inl ⟨rfl,rfl,rfl⟩) aa
 | false =>
  refine aeP ?_;intro g0 C0 hB
  refine gl [0,2] (fun ((d,v,_):Nat×Value×Chunk)=>[(1,.int .i64 (at_+d:Nat)),(8,v)]) (fun (_,_,D)=>[D]) (fun (d,v,D)=>d<=m/\aC D 5 1 v d (au (((bp R ls).drop at_).take d))) (fun (d,_)=>m - d) (0,.slice (some ⟨g0,0,none⟩) 0 m,C0) ⟨by omega,by rw [take_zero];exact hB⟩ ?_
  rintro ⟨d,v,D⟩ ⟨hdm,hD⟩
  obtain ⟨kK,cv,rfl⟩:=hD.slice
  refine gi ?_ ?_ <;> intro br
  ·have hk:(at_+d) / 88<256:=oZ
   have acJ:(at_+d) % 88<88:=oZ
   have l8:=Fb T fr p qs t pool tp pr n ls no V hV ok hall R C hC ho ((at_+d) / 88) hk
   have hSl:=hS ((at_+d) / 88)
   have Qd:∀c,c<=88 - (at_+d) % 88->(((bp R ls).drop at_).drop d).take c=((xp R ls ((at_+d) / 88)).drop ((at_+d) % 88)).take c:=fun c hc=>by
    rw [drop_drop];exact Mu hS oZ hk hc
   generalize xp R ls ((at_+d) / 88)=S at *
   refine gc l8 ?_
   rintro _ _ ⟨g,rfl,rfl⟩
   have hg:Rd [(g,ax (au S) 5)] 1 (.slice (some ⟨g,0,none⟩) 88 88) 88 (au S):=ay (by rw [aq,hSl]) (aP _) oZ _
   have qc:((au S).drop ((at_+d) % 88*1)).take ((88 - (at_+d) % 88)*1)=au (S.drop ((at_+d) % 88)):=by rw [Nat.mul_one,bo,Nat.mul_one,take_of_length_le (by rw [aq,length_drop];omega)]
   refine gw ?_;intro ia DV
   obtain ⟨cc,hcc⟩:∃cc,cc=min (88 - (at_+d) % 88) (m - d):=⟨_,rfl⟩
   refine go ?_
   rw [show min (((88 - (at_+d) % 88:Nat)):Int) ((m - d:Nat):Int)=((cc:Nat):Int) by omega]
   have ZV:((au (S.drop ((at_+d) % 88))).drop (0*1)).take ((cc - 0)*1)=au ((S.drop ((at_+d) % 88)).take cc):=by rw [Nat.zero_mul,drop_zero,Nat.mul_one,Nat.sub_zero,aQ]
   have dq:cc - 0=cc:=rfl
   refine gw ?_;intro qK hR4
   refine gp ?_;intro sF c5 C5 hC5
   have mh:((bp R ls).drop at_).take (d+cc)=((bp R ls).drop at_).take d++(S.drop ((at_+d) % 88)).take cc:=by
    rw [<-Qd cc oZ,<-take_add]
   have he:at_+d+cc=at_+(d+cc):=oZ
   refine go ?_
   rw [he]
   refine gn ?_
   exact ⟨(d+cc,_,C5),⟨by omega,by rw [mh,aG];exact hC5⟩,sOZ,ar,_,aa⟩
  ·obtain rfl:d=m:=oZ
   refine gz ?_
   exact fin (.inr ⟨rfl,kK,cv,D,rfl,hD,rfl⟩) aa
end
end Go.Proofs.YtpabnmeponmonaaGreatDoor
namespace Go.Sl
theorem j3 {pr:Bool}{w b:Nat}(hw:1<=w/\w<=5)(hp:pr=true->3<=w)(hb:b<=1024):aL pr w b<=aL pr w 1024:=by
 have h:w=1\/w=2\/w=3\/w=4\/w=5:=oZ
 cases pr
 ·simp only [aL,Bool.false_eq_true,if_false,aF];omega
 ·have:=hp rfl
  rcases h with rfl | rfl | rfl | rfl | rfl
  ·omega
  ·omega
  ·simp only [aL,if_true,dU,aF];omega
  ·simp only [aL,if_true,dU,aF];omega
  ·simp only [aL,if_true,dU,aF];omega
end Go.Sl
namespace Go.Proofs.YtpabnmeponmonaaGreatDoor
structure OQM (Ms:List Chunk)(o:aB):Prop
section
variable {X:Cx}{f:Fx}{k:Kt}{e:Env}{Ls:List Chunk}{ops:List Oper}
theorem WS.Vr {Ms:List Chunk}{o:aB}(_:OQM Ms o){id:Nat}(hm:X.P.follows .mixedOrders=true)(hB:(ops.all cn&&lQ ops.toArray o)=true)(hM:∀C∈Ms,C∈Ls)(h:WO X f ops k Ms o e Ls):WS X f (.region id ops.toArray true) k e Ls:=by
 rw [Bool.and_eq_true] at hB
 exact .drawn hm o hB.1 hB.2 Ms hM h
end
theorem aav {G H:Prop}(Ms:List Chunk)(o:aB)(k:H)(h:OQM Ms o->im H->G:=by
 intro oo kk;refine go ?_;refine WS.Vr oo ?_ ?_ ?_ ?_;exact rfl;kernel_rfl;(repeat (first | exact OJ | (apply OK;exact mem)));exact kk.out):G:=h ⟨⟩ ⟨k⟩
def ri (g s gt:Nat)(m:Int)(ks:List Nat)(G:Chunk):Prop:=∃ad c D,aC D 166 3 (.slice ad ks.length c) ks.length ((LW m ks).flatMap Pl.lay)/\G=[(g,ax [ptr s,.int .u64 gt,.slice ad ks.length c] 140)]++D
section
variable (T:TypeId)(fr:Nat×Nat)(p:Nat)(qs:List Nat)(t pool:Nat)(tp:Tp)(pr:Bool)(n:Nat)(ls:List (Option Lv))(no:Nat)(V:Chunk)(hV:iZ t pool tp pr n ls no V)(ok:dj tp pr n ls.length)(dq:n<=2048)(R:Rk)(C:Chunk)(hC:bj p qs R C)(ho:dE qs R n ls)(hall:∀x∈ls,x≠none)(db:R.on)
variable (s al:Nat)(ra rd ae note:Nat)(g gt:Nat)(eV:1<=gt/\gt<=281474976710656)(ks:List Nat)(kI:ks.length<=100000)(G:Chunk)(hG:ri g s gt ((aL pr ls.length 1024:Nat):Int) ks G)
theorem Vs (G X1 X2 X3 X4 X5:Chunk)(b:List UInt8)(L:Nat)(hL:b.length=L)(hb:bx b=true)(O:Chunk)(v:Value)(hO:Rd O 1 v L (au b)):Ct 128 [ptr g,v] [G,X1,X2,X3,X4,X5,O] fun u Bs=>u = .tuple #[ai.agg,.int .i64 0]/\Bs=[G,X1,X2,X3,X4,X5,O]:=by
 have h:=AL v O b L hL hO
 rw [hb] at h
 refine st func128 fun w0 => ?_
 refine ga ?_;intro b4
 refine gc h ?_
 rintro _ _ ⟨rfl,rfl⟩
 refine gz ?_
 exact fin ⟨rfl,rfl⟩ aa
include hV ok dq hC ho hall db eV kI hG
end
end Go.Proofs.YtpabnmeponmonaaGreatDoor
namespace Go.Sl
def iW (l:List aw)(k:Int):Int×Int:=if 1<=k/\k<=112 then (match eM l k with
 | some o=>((o.b.length:Int),0)
 | none=>(0,130)) else (0,1)
theorem sX {l:List aw}{k:Int}(h:¬(1<=k/\k<=112)):iW l k=(0,1):=if_neg h
theorem rj {l:List aw}{k:Int}(h:1<=k/\k<=112)(h2:eM l k=none):iW l k=(0,130):=by unfold iW;rw [if_pos h,h2]
theorem sY {l:List aw}{k:Int}{o:aw}(h:1<=k/\k<=112)(h2:eM l k=some o):iW l k=((o.b.length:Int),0):=by unfold iW;rw [if_pos h,h2]
def nI (o:aw)(g i:Nat):Bool:=o.ik i||decide (g<o.born i)
def aX (o:aw)(g:Nat):List Bool:=(List.range 64).map (nI o g)
theorem HV (o:aw)(g:Nat):(aX o g).length=64:=by simp [aX]
theorem Mw {o:aw}{g i:Nat}(h:i<64):(aX o g)[i]? = some (nI o g i):=by simp [aX,h]
end Go.Sl
namespace Go.Proofs.YtpabnmeponmonaaGreatDoor
section
variable (a:Nat)(l:List aw)(aO:kN l)(ae note room:Nat)(vG vS:Value)(ad:Option Addr)(c:Nat)(D O:Chunk)(hD:Rd D 130 (.slice ad l.length c) l.length (l.flatMap aw.lay))(hO:HL O l)
theorem Mx (k x y:Int)(h:¬(1<=k/\k<=112)\/x<0\/y<0):Ct 60 [ptr a,.int .i64 k,.int .i64 x,.int .i64 y] [] fun u Bs=>u = .tuple #[.slice none 0 0,.int .i64 1]/\Bs=[]:=by
 have hn:=cR k
 refine st func60 fun w0 => ?_
 refine gc hn ?_
 rintro _ _ ⟨rfl,rfl⟩
 by_cases hk:1<=k/\k<=112
 ·rw [decide_eq_true hk]
  have h:=h.resolve_left (fun c=>c hk)
  by_cases hx:x<0
  ·refine gz ?_
   exact fin ⟨rfl,rfl⟩ aa
  ·have hy:=h.resolve_left hx
   refine gz ?_
   exact fin ⟨rfl,rfl⟩ aa
 ·rw [decide_eq_false hk]
  refine gz ?_
  exact fin ⟨rfl,rfl⟩ aa
include aO hD
theorem Q5 (k:Int)(hk:1<=k/\k<=112)(x y:Nat)(h:eM l k=none):Ct 60 [ptr a,.int .i64 k,.int .i64 x,.int .i64 y] [[(a,iJ (.slice ad l.length c) ae note room vG vS)],D] fun u Bs=>u = .tuple #[.slice none 0 0,.int .i64 130]/\Bs=[[(a,iJ (.slice ad l.length c) ae note room vG vS)],D]:=by
 have hn:=cR k
 rw [decide_eq_true hk] at hn
 refine st func60 fun w0 => ?_
 refine gc hn ?_
 rintro _ _ ⟨rfl,rfl⟩
 refine gc (re a l aO ae note room vG vS ad c D hD k) ?_
 rintro _ _ ⟨⟨rfl, -⟩ | ⟨i,o, -, -,hn⟩,rfl⟩
 ·refine gz ?_
  exact fin ⟨rfl,rfl⟩ aa
 ·rw [h] at hn;cases hn
include hO
theorem Bv (k:Int):Ct 61 [ptr a,.int .i64 k] [[(a,iJ (.slice ad l.length c) ae note room vG vS)],D] fun u Bs=>u = .tuple #[.int .i64 (iW l k).1,.int .i64 (iW l k).2]/\Bs=[[(a,iJ (.slice ad l.length c) ae note room vG vS)],D]:=by
 have hn:=cR k
 by_cases hk:1<=k/\k<=112
 ·rw [decide_eq_true hk] at hn
  refine st func61 fun w0 => ?_
  refine gc hn ?_
  rintro _ _ ⟨rfl,rfl⟩
  refine gc (re a l aO ae note room vG vS ad c D hD k) ?_
  rintro _ _ ⟨⟨rfl,hn⟩ | ⟨i,o,rfl,hi,hn⟩,rfl⟩
  ·rw [rj hk hn]
   refine gz ?_
   exact fin ⟨rfl,rfl⟩ aa
  ·rw [sY hk hn]
   have bh:=(List.getElem?_eq_some_iff.1 hi).1
   have rT:=mem_of_getElem? hi
   have mM:=aO.jd
   obtain ⟨g,off,rfl⟩:=hD.addr oZ
   have hs:=av aw.ak l i o hi
   obtain ⟨⟨kK,cv,hv, -⟩, -⟩:=hO o rT
   have vV:=hs 1 _ (show o.lay[1]? = some (.slice kK o.b.length cv) by rw [<-hv];exact aw.sU _)
   refine gz ?_
   exact fin ⟨rfl,rfl⟩ aa
 ·rw [decide_eq_false hk] at hn
  rw [sX hk]
  refine st func61 fun w0 => ?_
  refine gc hn ?_
  rintro _ _ ⟨rfl,rfl⟩
  refine gz ?_
  exact fin ⟨rfl,rfl⟩ aa
theorem Q6 (k:Int)(hk:1<=k/\k<=112)(x y:Nat)(hxy:x<9223372036854775808/\y<9223372036854775808)(o:aw)(h:eM l k=some o):Ct 60 [ptr a,.int .i64 k,.int .i64 x,.int .i64 y] [[(a,iJ (.slice ad l.length c) ae note room vG vS)],D,O] fun u Bs=>∃bz c',u = .tuple #[.slice bz (dO o.b.length x y) c',.int .i64 0]/\Rd O 1 (.slice bz (dO o.b.length x y) c') (dO o.b.length x y) (au ((o.b.drop x).take y))/\Bs=[[(a,iJ (.slice ad l.length c) ae note room vG vS)],D,O]:=by
 have hn:=cR k
 rw [decide_eq_true hk] at hn
 refine st func60 fun w0 => ?_
 refine gc hn ?_
 rintro _ _ ⟨rfl,rfl⟩
 refine gc (re a l aO ae note room vG vS ad c D hD k) ?_
 rintro _ _ ⟨⟨rfl,hn⟩ | ⟨i,o',rfl,hi,hn⟩,rfl⟩
 ·rw [h] at hn;cases hn
 ·obtain rfl:o=o':=by rw [h] at hn;exact Option.some.inj hn
  have bh:=(List.getElem?_eq_some_iff.1 hi).1
  have rT:=mem_of_getElem? hi
  have mM:=aO.jd
  have Cj:=aO.sm o rT
  obtain ⟨g,off,rfl⟩:=hD.addr oZ
  have hs:=av aw.ak l i o hi
  obtain ⟨⟨kK,cv,hv,Tb⟩,hR⟩:=hO o rT
  have vV:=hs 1 _ (show o.lay[1]? = some (.slice kK o.b.length cv) by rw [<-hv];exact aw.sU _)
  rw [hv] at hR
  clear hv
  by_cases hx:o.b.length<=x
  ·have e:dO o.b.length x y=0:=by unfold dO;omega
   have e2:(o.b.drop x).take y=[]:=by rw [drop_eq_nil_of_le hx];simp
   rw [e,e2]
   refine gz ?_
   exact fin ⟨none,0,rfl,Rd.nil _ _,rfl⟩ aa
  ·have qc:((au o.b).drop (x*1)).take ((o.b.length - x)*1)=au (o.b.drop x):=by rw [Nat.mul_one,Nat.mul_one,bo,take_of_length_le (by rw [aq,length_drop];omega)]
   have Nw:o.b.length - x=o.b.length - x:=rfl
   refine gw ?_;intro ad2 kY
   by_cases hy:y<o.b.length - x
   ·have e:dO o.b.length x y=y:=by unfold dO;omega
    rw [e]
    have ZV:((au (o.b.drop x)).drop (0*1)).take ((y - 0)*1)=au ((o.b.drop x).take y):=by rw [Nat.zero_mul,drop_zero,Nat.sub_zero,Nat.mul_one,aQ]
    have dq:y - 0=y:=rfl
    clear hR
    refine gw ?_;intro ia DV
    refine gz ?_
    exact fin ⟨ia,_,rfl,DV,rfl⟩ aa
   ·have e:dO o.b.length x y=o.b.length - x:=by unfold dO;omega
    rw [e,take_of_length_le (by rw [length_drop];omega)]
    refine gz ?_
    exact fin ⟨ad2,_,rfl,kY,rfl⟩ aa
theorem My (k:Int)(g:Nat)(h:(iW l k).2≠0):Ct 63 [ptr a,.int .i64 k,.int .u64 g] [[(a,iJ (.slice ad l.length c) ae note room vG vS)],D] fun u Bs=>u = .tuple #[.slice none 0 0,.int .i64 (iW l k).2]/\Bs=[[(a,iJ (.slice ad l.length c) ae note room vG vS)],D]:=by
 have hs:=Bv a l aO ae note room vG vS ad c D O hD hO k
 generalize iW l k=z at *
 obtain ⟨z1,z2⟩:=z
 simp only at h hs ⊢
 refine st func63 fun w0 => ?_
 refine gc hs ?_
 rintro _ _ ⟨rfl,rfl⟩
 refine gz ?_
 exact fin ⟨rfl,rfl⟩ aa
theorem Q7 (k:Int)(hk:1<=k/\k<=112)(g:Nat)(o:aw)(h:eM l k=some o):Ct 63 [ptr a,.int .i64 k,.int .u64 g] [[(a,iJ (.slice ad l.length c) ae note room vG vS)],D] fun u Bs=>∃bz c' E,u = .tuple #[.slice bz (mY o.b.length 0 (aX o g) []).length c',.int .i64 0]/\aC E 164 2 (.slice bz (mY o.b.length 0 (aX o g) []).length c') (mY o.b.length 0 (aX o g) []).length ((mY o.b.length 0 (aX o g) []).flatMap Sp.lay)/\Bs=[E,[(a,iJ (.slice ad l.length c) ae note room vG vS)],D]:=by
 have bu:=Bv a l aO ae note room vG vS ad c D O hD hO k
 rw [sY hk h] at bu
 have ic:=re a l aO ae note room vG vS ad c D hD k
 have dP:=HV o g
 refine st func63 fun w0 => ?_
 refine gc bu ?_
 rintro _ _ ⟨rfl,rfl⟩
 have rT:=(fH h).1
 have mM:=aO.jd
 have Kx:=length_pos_of_mem rT
 have Hy:=o.ak
 have fJ:=o.bK (by obtain ⟨⟨kK,cv,hv, -⟩, -⟩:=hO o rT;rw [hv];rfl)
 obtain ⟨gD,off,rfl⟩:=hD.addr oZ
 refine aav [[(a,iJ (.slice (some ⟨gD,off,none⟩) l.length c) ae note room vG vS)],D] (aB.cons (0,0) (aB.cons (1,0) (aB.cons (2,0) (aB.cons (3,0) (aB.cons (4,0) (aB.cons (5,0) (aB.fork 6 (aB.yh [(7,0),(8,0),(9,1),(10,3)]) 9 (aB.yh [(6,1),(7,0),(8,0),(10,3)])))))))) ?_
 refine gk ?_ ?_
 case' refine_1 =>
  refine gc ic ?_
  rintro _ _ ⟨⟨rfl,hn⟩ | ⟨i,o',rfl,hi,hn⟩,rfl⟩
  case' inl=>exact absurd h (by rw [hn];simp)
  obtain rfl:o=o':=by rw [h] at hn;exact Option.some.inj hn
  have bh:=(List.getElem?_eq_some_iff.1 hi).1
  have hs:=av aw.ak l i o hi
  refine ga ?_;intro xX
 case' refine_2 =>
  refine ga ?_;intro xX
  refine gc ic ?_
  rintro _ _ ⟨⟨rfl,hn⟩ | ⟨i,o',rfl,hi,hn⟩,rfl⟩
  case' inl=>exact absurd h (by rw [hn];simp)
  obtain rfl:o=o':=by rw [h] at hn;exact Option.some.inj hn
  have bh:=(List.getElem?_eq_some_iff.1 hi).1
  have hs:=av aw.ak l i o hi
 all_goals
  refine gm ?_;intro g11 C11 acK
  have hC:C11=[(g11,ax (aR (bC (aX o g) 0)) 121)]:=by
   rcases acK.2.2 with ⟨h,_⟩ | ⟨g',c',r',hv,rfl,_,_,hlen⟩
   ·cases h
   ·cases hv
    have h3:=acK.1
    obtain rfl:r'=[]:=eq_nil_of_length_eq_zero oZ
    rw [append_nil]
    have:(replicate 64 ai.lay).flatten=aR (bC (aX o g) 0):=by
     rw [qW 64 ai Pt.lay];rfl
    rw [<-this];rfl
  subst hC
  refine gl [2,10,11] (fun (i:Nat)=>[(12,.int .i64 i)]) (fun i=>[[(g11,ax (aR (bC (aX o g) i)) 121)]]) (fun i=>i<=64) (fun i=>64 - i) 0 oZ ?_
  rintro j hj
  refine gi ?_ ?_ <;> intro br
  ·have pC:j<64:=oZ
   have HM:(aX o g)[j]? = some (nI o g j):=Mw pC
   have yt:=ov dP hj
   have acL:=o.JM pC
   have aha:=o.QO pC
   have py:∀b:Bool,nI o g j=b->(match b with | true=>(aR (bC (aX o g) j)).set (j*9+3) (.int .u64 1) | false=>aR (bC (aX o g) j))=aR (bC (aX o g) (j+1)):=fun b hb=>by
    rw [hb] at HM
    cases b
    ·rw [EZ dP pC HM]
    ·exact zx dP pC HM
   cases Q8:o.ik j with
   | true =>
    rw [Q8] at acL
    have py:(aR (bC (aX o g) j)).set (j*9+3) (.int .u64 1)=aR (bC (aX o g) (j+1)):=py true (by unfold nI;rw [Q8];rfl)
    refine gn ?_
    rw [py]
    exact ⟨j+1,by omega,by omega,ar,_,aa⟩
   | false =>
    rw [Q8] at acL
    refine gi ?_ ?_ <;> intro hbt
    ·have py:(aR (bC (aX o g) j)).set (j*9+3) (.int .u64 1)=aR (bC (aX o g) (j+1)):=py true (by unfold nI;rw [Q8];exact decide_eq_true oZ)
     refine gn ?_
     rw [py]
     exact ⟨j+1,by omega,by omega,ar,_,aa⟩
    ·have py:aR (bC (aX o g) j)=aR (bC (aX o g) (j+1)):=py false (by unfold nI;rw [Q8];exact decide_eq_false oZ)
     refine gn ?_
     rw [py]
     exact ⟨j+1,by omega,by omega,ar,_,aa⟩
  ·obtain rfl:j=64:=oZ
   have ju:bC (aX o g) 64=(aX o g).map qP:=by unfold bC;rw [take_of_length_le oZ];simp
   rw [ju]
   have hR:Rd [(g11,ax (aR ((aX o g).map qP)) 121)] 9 (.slice (some ⟨g11,0,none⟩) 64 64) 64 (aR ((aX o g).map qP)):=by
    have h9:=ov dP (Nat.le_refl 64)
    rw [ju] at h9
    exact ay oZ (fun u hu=>by obtain ⟨x, -,hx⟩:=mem_flatMap.1 hu;exact Pt.bK x u hx) oZ _
   have Cj:=aO.sm o rT
   obtain ⟨⟨kK,cv,hv, -⟩, -⟩:=hO o rT
   have YR:o.lay[1]? = some (.slice kK o.b.length cv):=by rw [<-hv];exact aw.sU _
   refine gc (LK _ _ 64 o.b.length (aX o g) dP Cj hR) ?_
   rintro _ _ ⟨bz,c',E,rfl,hE,rfl⟩
   refine gz ?_
   exact fin ⟨bz,c',E,rfl,hE,rfl⟩ aa
end
section
variable (T:TypeId)(fr:Nat×Nat)(p:Nat)(qs:List Nat)(t pool:Nat)(tp:Tp)(pr:Bool)(n:Nat)(ls:List (Option Lv))(no:Nat)(V:Chunk)(hV:iZ t pool tp pr n ls no V)(ok:dj tp pr n ls.length)(R:Rk)(C:Chunk)(hC:bj p qs R C)(ho:dE qs R n ls)(hall:∀x∈ls,x≠none)(db:R.off=false)
variable (s:Nat)(vA:Value)(ra rd ae note:Nat)(LA:List (Int×Value))(CA:Chunk)(hA:Mp ra .i64 LA CA)(all:List (Int×Ob))(VA:Chunk)(hG:fo yd LA all VA)
variable (a:Nat)(l:List aw)(aO:kN l)(room:Nat)(vG vS:Value)(ad:Option Addr)(c:Nat)(D O:Chunk)(hD:Rd D 130 (.slice ad l.length c) l.length (l.flatMap aw.lay))(hO:HL O l)
include hV ok hC ho hall db hA hG aO hD hO
theorem Q9 (gH:LA.length=l.length)(tj:∀ks,ks.Perm (LA.map (·.1))->ks.Pairwise (· <= ·)->ks=l.map fun o=>(o.no:Int))(dJ:Pt->List UInt8)
  (JT:∀o∈l,1<=o.no/\∃ob,aJ all o.no=some ob/\ob.size=o.b.length/\ob.mO dJ 0 ob.size=o.b/\(∀x∈ob.aA,x≠ai->Mf R ls pr n x (dJ x))/\∀e∈ob.fresh,e.2.length<=1024) :
  Ct 12 [ptr s,ptr a] [[(s,bU t vA ra rd ae note)],gK T fr,C,V,CA,VA,[(a,iJ (.slice ad l.length c) ae note room vG vS)],D,O] fun u Bs=>u = .bool true/\Bs=[[(s,bU t vA ra rd ae note)],gK T fr,C,V,CA,VA,[(a,iJ (.slice ad l.length c) ae note room vG vS)],D,O]:=by
 have mM:=aO.jd
 refine st func12 fun w0 => ?_
 refine gc (sW s t vA ra rd ae note LA CA hA oZ) ?_
 rintro _ _ ⟨ks,iY,c1,E,k1,k2,rfl,hE,rfl⟩
 rw [gH] at hE ⊢
 refine gc (Vo a l aO ae note room vG vS ad c D hD ks (tj ks k1 k2) E iY c1 hE) ?_
 rintro _ _ ⟨rfl,E',rfl⟩
 refine gd [0,4,8,12,20,24,28,32,17,36,40,44,48,56,60,64,68,53,72,76] ?_
 refine gc (QR s t vA ra rd ae note) ?_
 rintro _ _ ⟨rfl,rfl⟩
 refine gc (Vm s t vA ra rd ae note) ?_
 rintro _ _ ⟨rfl,rfl⟩
 refine gl [0,1,5] (fun i:Nat=>[(6,.int .i64 i)]) (fun _=>[]) (fun i=>i<=l.length) (fun i=>l.length - i) 0 oZ ?_
 intro i hi
 refine gi ?_ ?_ <;> intro br
 ·have bh:i<l.length:=oZ
  have jW:=hD
  obtain ⟨gD,off,rfl⟩:=hD.addr oZ
  have hs:=av aw.ak l i l[i] (by simp)
  have vg:=hs 0 _ (aw.Mh _)
  obtain ⟨o1,ob,o2,o3,o4,o5,o6⟩:=JT l[i] (getElem_mem bh)
  obtain ⟨⟨kK,cv,hv,Tb⟩,yr⟩:=hO l[i] (getElem_mem bh)
  have vV:=hs 1 _ (show l[i].lay[1]? = some (.slice kK l[i].b.length cv) by rw [<-hv];exact aw.sU _)
  rw [hv] at yr
  have Cj:=aO.sm l[i] (getElem_mem bh)
  have gf:=aO.no l[i] (getElem_mem bh)
  have bu:=JN s t vA ra rd ae note LA CA hA all VA hG l[i].no
  rw [eY oZ o2] at bu
  have qd:=JO T fr p qs t pool tp pr n ls no V hV ok R C hC ho hall db s vA ra rd ae note LA CA hA all VA hG l[i].no oZ 0 65536 oZ ob o2 oZ dJ o5 o6
  rw [show dO ob.size 0 65536=l[i].b.length by unfold dO;omega,<-o3,o4,o3] at qd
  refine gc bu ?_
  rintro _ _ ⟨rfl,rfl⟩
  refine gc qd ?_
  rintro _ _ ⟨ad2,c2,E2,rfl,hE2,rfl⟩
  have ahb:=hE2.rd
  refine gd [0,4,8,12,16,20,24,28,32,36,40,44,48,52,56,60,64,68,72,76,80,84,88,92,96,100,104,108,112,116,120,124,128] ?_
  refine gi ?_ ?_ <;> intro ey
  ·simp at ey
  ·refine gn ?_
   exact ⟨i+1,by omega,by omega,ar,_,aa⟩
 ·obtain rfl:i=l.length:=oZ
  refine gz ?_
  exact fin ⟨rfl,rfl⟩ aa
end
end Go.Proofs.YtpabnmeponmonaaGreatDoor
namespace Go.Sl
def Tp.nJ (t:Tp):Prop:=324<=t.bE/\t.bE<=2048/\t.leaves<=5/\((t.kind=1/\t.leaves=1)\/(t.kind=2/\2<=t.leaves)\/(t.kind=3/\3<=t.leaves))
instance (t:Tp):Decidable t.nJ:=by unfold Tp.nJ;exact inferInstance
end Go.Sl
namespace Go.Proofs.YtpabnmeponmonaaGreatDoor
theorem aaw {t:Tp}(h:t.nJ):dj t (decide (t.kind=3)) t.bE.toNat t.leaves.toNat:=by
 obtain ⟨h1,h2,h3,h4⟩:=h
 obtain ⟨k,l,s⟩:=t
 simp only at *
 exact ⟨by omega,by omega,fun h=>by have:=of_decide_eq_true h;omega,by simp only [Tp.mk.injEq];exact ⟨trivial,by omega,by omega⟩,rfl⟩
theorem aax (k l s:Int):Ct 4 [.agg #[.int .i64 k,.int .i64 l,.int .i64 s]] [] fun u Bs=>u = .bool (decide (Tp.mk k l s).nJ)/\Bs=[]:=by
 refine st func4 fun w0 => ?_
 refine ga ?_;intro b1
 refine gg ?_ ?_ <;> intro h1
 ·refine gz ?_
  exact fin ⟨congrArg _ (decide_eq_false fun h=>by obtain ⟨a,b,c,d⟩:=h;simp only at *;omega).symm,rfl⟩ aa
 ·refine gg ?_ ?_ <;> intro h2
  ·refine gz ?_
   exact fin ⟨congrArg _ (decide_eq_false fun h=>by obtain ⟨a,b,c,d⟩:=h;simp only at *;omega).symm,rfl⟩ aa
  ·refine gi ?_ ?_ <;> intro h3
   ·refine gz ?_
    exact fin ⟨congrArg _ (decide_eq_false fun h=>by obtain ⟨a,b,c,d⟩:=h;simp only at *;omega).symm,rfl⟩ aa
   ·have hb:∀k':Int,(Tp.mk k' l s).nJ↔((k'=1/\l=1)\/(k'=2/\2<=l)\/(k'=3/\3<=l)):=fun k'=>⟨fun h=>h.2.2.2,fun h=>⟨sOZ,sOZ,sOZ,h⟩⟩
    have hh:=hb k
    refine gg ?_ ?_ <;> intro k1
    ·refine gg ?_ ?_ <;> intro k4
     ·refine gz ?_
      exact fin ⟨congrArg _ (by first | exact (decide_eq_true (hh.2 oZ)).symm | exact (decide_eq_false fun h=>by have:=hh.1 h;omega).symm | exact (decide_eq_decide.2 (hh.trans ⟨fun h=>by omega,fun h=>by omega⟩)).symm | (rw [show decide (Tp.mk k l s).nJ=_ from decide_eq_decide.2 hh];simp;try omega)),rfl⟩ aa
     ·refine gz ?_
      exact fin ⟨congrArg _ (by first | exact (decide_eq_true (hh.2 oZ)).symm | exact (decide_eq_false fun h=>by have:=hh.1 h;omega).symm | exact (decide_eq_decide.2 (hh.trans ⟨fun h=>by omega,fun h=>by omega⟩)).symm | (rw [show decide (Tp.mk k l s).nJ=_ from decide_eq_decide.2 hh];simp;try omega)),rfl⟩ aa
    ·refine gg ?_ ?_ <;> intro k2
     ·refine gg ?_ ?_ <;> intro k4
      ·refine gz ?_
       exact fin ⟨congrArg _ (by first | exact (decide_eq_true (hh.2 oZ)).symm | exact (decide_eq_false fun h=>by have:=hh.1 h;omega).symm | exact (decide_eq_decide.2 (hh.trans ⟨fun h=>by omega,fun h=>by omega⟩)).symm | (rw [show decide (Tp.mk k l s).nJ=_ from decide_eq_decide.2 hh];simp;try omega)),rfl⟩ aa
      ·refine gz ?_
       exact fin ⟨congrArg _ (by first | exact (decide_eq_true (hh.2 oZ)).symm | exact (decide_eq_false fun h=>by have:=hh.1 h;omega).symm | exact (decide_eq_decide.2 (hh.trans ⟨fun h=>by omega,fun h=>by omega⟩)).symm | (rw [show decide (Tp.mk k l s).nJ=_ from decide_eq_decide.2 hh];simp;try omega)),rfl⟩ aa
     ·refine gg ?_ ?_ <;> intro k3
      ·refine gz ?_
       exact fin ⟨congrArg _ (by first | exact (decide_eq_true (hh.2 oZ)).symm | exact (decide_eq_false fun h=>by have:=hh.1 h;omega).symm | exact (decide_eq_decide.2 (hh.trans ⟨fun h=>by omega,fun h=>by omega⟩)).symm | (rw [show decide (Tp.mk k l s).nJ=_ from decide_eq_decide.2 hh];simp;try omega)),rfl⟩ aa
      ·refine gz ?_
       exact fin ⟨congrArg _ (by first | exact (decide_eq_true (hh.2 oZ)).symm | exact (decide_eq_false fun h=>by have:=hh.1 h;omega).symm | exact (decide_eq_decide.2 (hh.trans ⟨fun h=>by omega,fun h=>by omega⟩)).symm | (rw [show decide (Tp.mk k l s).nJ=_ from decide_eq_decide.2 hh];simp;try omega)),rfl⟩ aa
theorem JU (t:Tp):Ct 4 [t.agg] [] fun u Bs=>u = .bool (decide t.nJ)/\Bs=[]:=aax t.kind t.leaves t.bE
theorem Vt (k:Int)(w j:Nat)(hw:1<=w/\w<=5)(hj:j<=2048)(hk:k=3->3<=w):Ct 47 [.agg #[.int .i64 k,.int .i64 (w:Nat),.int .i64 (j+292:Nat)]] [] fun u Bs=>u = .int .i64 (if k=3 then (j*w) / (8+((8+w - 2) / (w - 1))) else j / 8:Nat)/\Bs=[]:=by
 have hjw:j*w<=2048*5:=Nat.mul_le_mul hj hw.2
 have hq:(8+w - 2) / (w - 1)<=8+w - 2:=Nat.div_le_self _ _
 refine st func47 fun w0 => ?_
 refine ga ?_;intro b1
 refine gi ?_ ?_ <;> intro h1
 ·have h3:k=3:=by simpa using h1
  have hk:=hk h3
  rw [if_pos h3]
  have e1:IntKind.i64.wrap (((j+292 - 292:Nat):Int)*(w:Int))=((j*w:Nat):Int):=by
   rw [Nat.add_sub_cancel,show (j:Int)*(w:Int)=((j*w:Nat):Int) from rfl,IntWalk.i64_in _ oZ]
  have e2:IntKind.i64.wrap (8+IntKind.i64.wrap ((8+(w:Int) - 2).tdiv ((w - 1:Nat):Int)))=((8+(8+w - 2) / (w - 1):Nat):Int):=by
   rw [show (8+(w:Int) - 2)=((8+w - 2:Nat):Int) by omega,Int.tdiv_eq_ediv_of_nonneg oZ,show (((8+w - 2:Nat):Int) / ((w - 1:Nat):Int))=(((8+w - 2) / (w - 1):Nat):Int) from rfl]
   generalize (8+w - 2) / (w - 1)=x at *
   rw [IntWalk.i64_in (x:Int) oZ,IntWalk.i64_in _ oZ]
   omega
  have e3:8+(8+w - 2) / (w - 1)≠0:=Nat.ne_of_gt (Nat.add_pos_left dZ _)
  refine gz ?_
  exact fin ⟨rfl,rfl⟩ aa
 ·have h3:¬k=3:=by simpa using h1
  rw [if_neg h3]
  refine gz ?_
  exact fin ⟨by rw [Nat.add_sub_cancel],rfl⟩ aa
theorem Ra (tp:Tp)(pr:Bool)(n w:Nat)(ok:dj tp pr n w)(dq:n<=2048):Ct 47 [tp.agg] [] fun u Bs=>u = .int .i64 (bD pr w n / aL pr w 1024:Nat)/\Bs=[]:=by
 obtain ⟨⟨hn, -⟩,hw,hp,ht,hk⟩:=ok
 obtain ⟨k,l,s⟩:=tp
 obtain ⟨rfl,rfl⟩:l=w/\s=n:=by simpa using ht
 obtain ⟨j,rfl⟩:∃j,n=j+292:=⟨n - 292,by omega⟩
 have h:=Vt k w j hw oZ (fun h=>hp (by rw [hk];exact decide_eq_true h))
 have e:(if k=3 then (j*w) / (8+((8+w - 2) / (w - 1))) else j / 8)=bD pr w (j+292) / aL pr w 1024:=by
  simp only at hk
  by_cases h3:k=3
  ·have hp':=hp (by rw [hk];exact decide_eq_true h3)
   rw [if_pos h3,hk,bD,aL,decide_eq_true h3,if_pos rfl,if_pos rfl,Nat.add_sub_cancel,Nat.mul_comm,dU,show aF 1024=8 from rfl,show 8+w - 2=8+(w - 2) by omega]
  ·rw [if_neg h3,hk,bD,aL,decide_eq_false h3,if_neg Bool.false_ne_true,if_neg Bool.false_ne_true,Nat.add_sub_cancel,show aF 1024=8 from rfl]
 rw [e] at h
 exact h
theorem Vu (tp:Tp)(pr:Bool)(n w:Nat)(ok:dj tp pr n w)(dq:n<=2048)(O:Chunk)(ad:Option Addr)(c:Nat)(hO:Rd O 3 (.slice ad 1 c) 1 tp.lay):Ct 18 [.slice ad 1 c] [O] fun u Bs=>u = .int .i64 (((bD pr w n / aL pr w 1024 / 4:Nat):Int) - 10)/\Bs=[O]:=by
 have fS:=Ra tp pr n w ok dq
 have h2:=ir pr ok.hw ⟨ok.hn.1,dq⟩
 have hq:bD pr w n / aL pr w 1024<=10240:=Nat.le_trans (Nat.div_le_self _ _) h2.2
 generalize bD pr w n / aL pr w 1024=z at *
 obtain ⟨g,o,rfl⟩:=hO.addr oZ
 have hs:Sub (0*3) tp.lay tp.lay:=av Tp.ak [tp] 0 tp rfl
 refine st func18 fun w0 => ?_
 refine gl [0,2] (fun ((i,q):Nat×Nat)=>[(4,.int .i64 i),(3,.int .i64 q)]) (fun _=>[]) (fun (i,q)=>i<=1/\q=if i=0 then 0 else z) (fun (i,_)=>1 - i) (0,0) ⟨by omega,rfl⟩ ?_
 rintro ⟨i,q⟩ ⟨hi,QB⟩
 refine gi ?_ ?_ <;> intro br
 ·obtain rfl:i=0:=oZ
  obtain rfl:q=0:=QB
  refine gc fS ?_
  rintro _ _ ⟨rfl,rfl⟩
  refine gn ?_
  exact ⟨(1,z),⟨by omega,rfl⟩,sOZ,ar,_,aa⟩
 ·obtain rfl:i=1:=oZ
  rw [if_neg oZ] at QB
  subst QB
  have hw:IntKind.i64.wrap (((q / 4:Nat):Int) - 10)=((q / 4:Nat):Int) - 10:=IntWalk.i64_in _ oZ
  refine gz ?_
  exact fin ⟨rfl,rfl⟩ aa
end Go.Proofs.YtpabnmeponmonaaGreatDoor
namespace Go.Sl
def mP (o:aw)(l:List aw):List aw×Bool:=l.foldl (fun p x=>(p.1++((if p.2=false/\o.no<=x.no then [o] else [])++(if x.no=o.no then [] else [x])),p.2||decide (o.no<=x.no))) ([],false)
theorem Ff (o:aw):∀(l:List aw) (p:List aw×Bool),(l.foldl (fun p x=>(p.1++((if p.2=false/\o.no<=x.no then [o] else [])++(if x.no=o.no then [] else [x])),p.2||decide (o.no<=x.no))) p).1++(if (l.foldl (fun p x=>(p.1++((if p.2=false/\o.no<=x.no then [o] else [])++(if x.no=o.no then [] else [x])),p.2||decide (o.no<=x.no))) p).2 then [] else [o])=p.1++dT o p.2 l
 | [],p=>rfl
 | x :: r,p=>by
  rw [foldl_cons,Ff o r,dT]
  simp only [append_assoc]
theorem Rb (o:aw)(l:List aw):(mP o l).1++(if (mP o l).2 then [] else [o])=dT o false l:=Ff o l ([],false)
theorem zC {o:aw}{l:List aw}{i:Nat}(hi:i<l.length):mP o (l.take (i+1))=((mP o (l.take i)).1++((if (mP o (l.take i)).2=false/\o.no<=l[i].no then [o] else [])++(if l[i].no=o.no then [] else [l[i]])),(mP o (l.take i)).2||decide (o.no<=l[i].no)):=by
 unfold mP
 rw [aK l hi,foldl_append];rfl
theorem Fg (o:aw):∀(l:List aw) (i:Nat),i<=l.length->(mP o (l.take i)).1.length<=2*i
 | l,0,_=>by simp [mP]
 | l,i+1,h=>by
  have ih:=Fg o l i oZ
  rw [zC oZ]
  simp only [length_append]
  split <;> split <;> simp <;> omega
end Go.Sl
namespace Go.Proofs.YtpabnmeponmonaaGreatDoor
theorem HW (a:Nat)(l:List aw)(aO:kN l)(ae note room:Nat)(vG vS:Value)(ad:Option Addr)(c:Nat)(D:Chunk)(hD:Rd D 130 (.slice ad l.length c) l.length (l.flatMap aw.lay))(o:aw)(hv:o.v.oneCell'=true)(xg:∀x∈l,x.v.oneCell'=true) :
  Ct 117 [ptr a,.agg o.lay.toArray] [[(a,iJ (.slice ad l.length c) ae note room vG vS)],D] fun _ Bs=>∃bz c' D',aC D' 81 130 (.slice bz (dT o false l).length c') (dT o false l).length ((dT o false l).flatMap aw.lay)/\Bs=[[(a,iJ (.slice bz (dT o false l).length c') ae note room vG vS)],D']:=by
 have mM:=aO.jd
 have Hy:=o.ak
 have ho0:=o.Mh
 have LG:=hD
 have fJ:=o.bK hv
 have qB:=Rb o l
 refine st func117 fun w0 => ?_
 refine ga ?_;intro b3
 refine gl [0,3] (fun ((i,qK,c4,_):Nat×Option Addr×Nat×Chunk)=>[(6,.int .i64 i),(4,.slice qK (mP o (l.take i)).1.length c4),(5,.bool (mP o (l.take i)).2)]) (fun (_,_,_,E)=>[E]) (fun (i,qK,c4,E)=>i<=l.length/\aC E 81 130 (.slice qK (mP o (l.take i)).1.length c4) (mP o (l.take i)).1.length ((mP o (l.take i)).1.flatMap aw.lay)) (fun (i,_)=>l.length - i) (0,none,0,[]) ⟨by omega,aC.nil _ _⟩ ?_
 rintro ⟨i,qK,c4,E⟩ ⟨hi,hE⟩
 have hgl:=Fg o l i hi
 refine gi ?_ ?_ <;> intro br
 ·have bh:i<l.length:=oZ
  obtain ⟨g,off,rfl⟩:=LG.addr oZ
  have tH:=zC (o:=o) bh
  obtain ⟨x,hx⟩:∃x,x=l[i]:=⟨_,rfl⟩
  have hs:=av aw.ak l i x (by rw [hx];simp)
  have Gh:=x.ak
  have Cq:=x.bK (xg x (by rw [hx];exact getElem_mem _))
  rw [<-hx] at tH
  have vg:=hs 0 _ x.Mh
  generalize mP o (l.take i)=p at *
  obtain ⟨P,d⟩:=p
  simp only at hE hgl tH ⊢
  have hRx:∀b,Rd [(b,ax x.lay 81)] 130 (.slice (some ⟨b,0,none⟩) 1 1) 1 x.lay:=fun b=>ay (by rw [Gh]) Cq (by simp) _
  have NI:∀b,Rd [(b,ax o.lay 81)] 130 (.slice (some ⟨b,0,none⟩) 1 1) 1 o.lay:=fun b=>ay (by rw [Hy]) fJ (by simp) _
  have uk:(P++[o]).length=P.length+1:=by simp
  have jK:(P++[o]++[x]).length=P.length+1+1:=by simp
  have hl3:(P++[x]).length=P.length+1:=by simp
  by_cases hd:d=false/\o.no<=x.no
  ·obtain ⟨rfl,hle⟩:=hd
   rw [if_pos ⟨rfl,hle⟩,decide_eq_true hle] at tH
   refine gm ?_;intro b33
   have afm:=NI b33
   refine gp ?_;intro sF c5 E5 hE5
   clear afm
   by_cases he:x.no=o.no
   ·have tH:mP o (l.take (i+1))=(P++[o],true):=by rw [tH,if_pos he];simp
    refine gn ?_
    exact ⟨(i+1,sF,c5,E5),⟨by omega,by rw [tH];simpa using hE5⟩,sOZ,by simp only [tH,uk];exact ar,_,aa⟩
   ·have tH:mP o (l.take (i+1))=(P++[o]++[x],true):=by rw [tH,if_neg he];simp
    refine gm ?_;intro b54
    have afn:=hRx b54
    refine gp ?_;intro G5 c6 E6 hE6
    refine gn ?_
    exact ⟨(i+1,G5,c6,E6),⟨by omega,by rw [tH];simpa using hE6⟩,sOZ,by simp only [tH,jK];exact ar,_,aa⟩
  ·have hd2:(d||decide (o.no<=x.no))=d:=by
    cases d with
    | true=>rfl
    | false=>exact decide_eq_false fun h=>hd ⟨rfl,h⟩
   rw [if_neg hd,hd2] at tH
   have eV:d=true\/d=false/\¬o.no<=x.no:=by
    cases d with
    | true=>exact .inl rfl
    | false=>exact .inr ⟨rfl,fun h=>hd ⟨rfl,h⟩⟩
   rcases eV with rfl | ⟨rfl,eV⟩
   all_goals
    by_cases he:x.no=o.no
    ·rw [if_pos he,append_nil,append_nil] at tH
     first | omega | (refine gn ?_;exact ⟨(i+1,qK,c4,E),⟨by omega,by rw [tH];exact hE⟩,sOZ,by simp only [tH];exact ar,_,aa⟩)
    ·rw [if_neg he,nil_append] at tH
     refine gm ?_;intro b54
     have afn:=hRx b54
     refine gp ?_;intro G5 c6 E6 hE6
     refine gn ?_
     exact ⟨(i+1,G5,c6,E6),⟨by omega,by rw [tH];simpa using hE6⟩,sOZ,by simp only [tH,hl3];exact ar,_,aa⟩
 ·obtain rfl:i=l.length:=oZ
  rw [take_length] at hE hgl ⊢
  generalize mP o l=p at *
  obtain ⟨P,d⟩:=p
  simp only at hE hgl qB ⊢
  cases d with
  | true =>
   have e:P=dT o false l:=by simpa using qB
   subst e
   refine gz ?_
   exact fin ⟨qK,c4,E,hE,rfl⟩ aa
  | false =>
   have e:P++[o]=dT o false l:=by simpa using qB
   rw [<-e]
   refine gm ?_;intro b60
   have ahc:Rd [(b60,ax o.lay 81)] 130 (.slice (some ⟨b60,0,none⟩) 1 1) 1 o.lay:=ay (by rw [Hy]) fJ (by simp) _
   refine gp ?_;intro sF c5 E5 hE5
   have hl5:(P++[o]).length=P.length+1:=by simp
   refine gz ?_
   exact fin ⟨sF,c5,E5,by rw [hl5];simpa using hE5,by rw [hl5]⟩ aa
end Go.Proofs.YtpabnmeponmonaaGreatDoor
namespace Go.Sl
def HX (k:Nat):aw:=⟨k,[],fun _=>0,fun _=>false,.slice none 0 0⟩
theorem xu (k:Nat):(HX k).lay=[.int .i64 k,.slice none 0 0,.int .u64 0,.int .u64 0,.int .u64 0,.int .u64 0,.int .u64 0,.int .u64 0,.int .u64 0,.int .u64 0,.int .u64 0,.int .u64 0,.int .u64 0,.int .u64 0,.int .u64 0,.int .u64 0,.int .u64 0,.int .u64 0,.int .u64 0,.int .u64 0,.int .u64 0,.int .u64 0,.int .u64 0,.int .u64 0,.int .u64 0,.int .u64 0,.int .u64 0,.int .u64 0,.int .u64 0,.int .u64 0,.int .u64 0,.int .u64 0,.int .u64 0,.int .u64 0,.int .u64 0,.int .u64 0,.int .u64 0,.int .u64 0,.int .u64 0,.int .u64 0,.int .u64 0,.int .u64 0,.int .u64 0,.int .u64 0,.int .u64 0,.int .u64 0,.int .u64 0,.int .u64 0,.int .u64 0,.int .u64 0,.int .u64 0,.int .u64 0,.int .u64 0,.int .u64 0,.int .u64 0,.int .u64 0,.int .u64 0,.int .u64 0,.int .u64 0,.int .u64 0,.int .u64 0,.int .u64 0,.int .u64 0,.int .u64 0,.int .u64 0,.int .u64 0,.bool false,.bool false,.bool false,.bool false,.bool false,.bool false,.bool false,.bool false,.bool false,.bool false,.bool false,.bool false,.bool false,.bool false,.bool false,.bool false,.bool false,.bool false,.bool false,.bool false,.bool false,.bool false,.bool false,.bool false,.bool false,.bool false,.bool false,.bool false,.bool false,.bool false,.bool false,.bool false,.bool false,.bool false,.bool false,.bool false,.bool false,.bool false,.bool false,.bool false,.bool false,.bool false,.bool false,.bool false,.bool false,.bool false,.bool false,.bool false,.bool false,.bool false,.bool false,.bool false,.bool false,.bool false,.bool false,.bool false,.bool false,.bool false,.bool false,.bool false,.bool false,.bool false,.bool false,.bool false]:=by unfold aw.lay;rfl
theorem aw.XY (o:aw)(b:List UInt8):({ o with b:=b }:aw).lay=o.lay:=by unfold aw.lay;rfl
theorem lE {o x:aw}:∀ {l:List aw} {d:Bool},x∈dT o d l->x=o\/x∈l
 | [],d,h=>by
  unfold dT at h
  split at h
  ·cases h
  ·exact .inl (mem_singleton.1 h)
 | y :: r,d,h=>by
  rw [dT,List.mem_append,List.mem_append] at h
  rcases h with h | h | h
  ·split at h
   ·exact .inl (mem_singleton.1 h)
   ·cases h
  ·split at h
   ·cases h
   ·rw [mem_singleton.1 h];exact .inr (mem_cons_self ..)
  ·rcases lE h with h | h
   ·exact .inl h
   ·exact .inr (mem_cons_of_mem _ h)
def lG (l:List aw)(k:Nat):aw:=(eM l k).getD (HX k)
def Mz (b:List UInt8)(size a:Nat)(x:List UInt8):List UInt8:=((dV size b).take a++x)++(dV size b).drop (a+x.length)
theorem JV {b x:List UInt8}{size a:Nat}(h:a+x.length<=size):(Mz b size a x).length=size:=by
 simp only [Mz,length_append,length_take,length_drop,ec];omega
def rn (o:aw)(a j k:Nat):Bool:=o.ik k||df a j k
theorem MC (o:aw)(a:Nat):rn o a 0=o.ik:=by
 funext k
 have:df a 0 k=false:=decide_eq_false oZ
 simp [rn,this]
theorem MD (o:aw)(a j:Nat):upd (rn o a j) ((a+j) / 1024) true=rn o a (j+1):=by
 funext k
 unfold upd rn
 have h:df a (j+1) k=(df a j k||decide (k=(a+j) / 1024)):=by
  simp only [df]
  rw [<-Bool.decide_or]
  exact decide_eq_decide.2 oZ
 rw [h]
 by_cases c:k=(a+j) / 1024
 ·rw [if_pos c,decide_eq_true c];simp
 ·rw [if_neg c,decide_eq_false c];simp
theorem JW (size:Nat)(b:List UInt8):(replicate size (Value.int .u8 0)).take 0++(au b).take (min b.length size)++(replicate size (Value.int .u8 0)).drop (0+min b.length size)=au (dV size b):=HJ size b
theorem aay {b x:List UInt8}{size a:Nat}(h:a+x.length<=size):(au (dV size b)).take a++(au x).take (min x.length (size - a))++(au (dV size b)).drop (a+min x.length (size - a))=au (Mz b size a x):=by
 rw [Nat.min_eq_left oZ,aQ,aQ,bo,take_of_length_le (Nat.le_refl _),<-aG,<-aG];rfl
end Go.Sl
namespace Go.Proofs.YtpabnmeponmonaaGreatDoor
section
variable {X:Cx}{f:Fx}{k:Kt}{e:Env}{Ls:List Chunk}{ops:List Oper}{Ms:List Chunk}{r':aB}{κ d:Nat}{t:TypeId}{x:Operand}
theorem WD.slE {b off:Nat}{m c lo hi mx s:Nat}{ol oh om:Option Operand}(hκ:calm κ=true)(hx:ev e x=some (.slice (some ⟨b,off,none⟩) m c))(hT:X.T.Ok X.P)(hs:Xj X.T t=some s)(hl:Bd e ol 0 lo)(hh:Bd e oh m hi)(hm:Bd e om c mx)(aO:okB ol oh om=true)(h:lo=hi/\hi<=m/\hi=mx/\mx<=c)
  (g:WO X f ops k Ms r' ((d,.slice (some ⟨b,off,none⟩) 0 0) :: e) Ls):WD X f ops k Ms κ (some d) (.slice t x ol oh om) r' e Ls:=by
 obtain ⟨el,g1,g2⟩:=sr hT hs
 obtain ⟨rfl,h2,rfl,h4⟩:=h
 have hv:sliced (some ⟨b,off,none⟩) lo lo lo s = .slice (some ⟨b,off,none⟩) 0 0:=by simp [sliced]
 exact .rd hκ (fun o a w ho E _=>hv ▸ Aq E ho hx g1 g2 hl hh hm aO (Nat.le_refl _) (Nat.le_refl _) h4) g
theorem gve {G H:Prop}(k:H)(h:im H->G:=by
 intro kk;refine go ?_;refine WO.dec rfl ?_
 apply WD.slE;exact rfl;exact rfl;exact aD;exact rfl;exact Nq;exact Nq;exact Nq;exact rfl;exact lens;exact kk.out):G:=h ⟨k⟩
end
section
variable (a:Nat)(l:List aw)(aO:kN l)(ae note room:Nat)(fe:room<=100000)(vG vS:Value)(ad:Option Addr)(c:Nat)(D O:Chunk)(hD:Rd D 130 (.slice ad l.length c) l.length (l.flatMap aw.lay))(hO:HL O l)
theorem Fh (k x:Int)(mJ:Option Addr)(m cb:Nat)(h:¬(1<=k/\k<=112)\/x<0\/65536<x\/65536 - x<m):Ct 49 [ptr a,.int .i64 k,.int .i64 x,.slice mJ m cb] [] fun u Bs=>u = .int .i64 1/\Bs=[]:=by
 have hn:=cR k
 refine st func49 fun w0 => ?_
 refine gc hn ?_
 rintro _ _ ⟨rfl,rfl⟩
 by_cases hk:1<=k/\k<=112
 ·rw [decide_eq_true hk]
  have h:=h.resolve_left (fun c=>c hk)
  by_cases hx:x<0
  ·refine gz ?_
   exact fin ⟨rfl,rfl⟩ aa
  ·have h:=h.resolve_left hx
   by_cases ZF:65536<x
   ·refine gz ?_
    exact fin ⟨rfl,rfl⟩ aa
   ·have h:=h.resolve_left ZF
    have hs:IntKind.i64.wrap (65536 - x)=65536 - x:=IntWalk.i64_in _ oZ
    refine gz ?_
    exact fin ⟨rfl,rfl⟩ aa
 ·rw [decide_eq_false hk]
  refine gz ?_
  exact fin ⟨rfl,rfl⟩ aa
include aO hD hO fe
omit fe hD in
theorem aaz (k:Nat):(∃kK cv,(lG l k).v = .slice kK (lG l k).b.length cv/\(lG l k).b.length<=cv)/\Rd O 1 (lG l k).v (lG l k).b.length (au (lG l k).b)/\(lG l k).b.length<=65536:=by
 unfold lG
 cases h:eM l k with
 | none=>exact ⟨⟨none,0,rfl,Nat.le_refl _⟩,Rd.nil _ _,Nat.zero_le _⟩
 | some o =>
  have hm:=(fH h).1
  exact ⟨(hO o hm).1,(hO o hm).2,aO.sm o hm⟩
theorem zD (k:Nat)(hk:1<=k/\k<=112)(x m:Nat)(UE:x+m<=65536)(B:Chunk)(mJ:Option Addr)(cb:Nat)(b:List UInt8)(dP:b.length=m)(hB:Rd B 1 (.slice mJ m cb) m (au b))(ME:m<=cb) :
  Ct 49 [ptr a,.int .i64 k,.int .i64 x,.slice mJ m cb] [[(a,iJ (.slice ad l.length c) ae note room vG vS)],D,O,B] fun u Bs=>(cQ l k (max (lG l k).b.length (x+m)) room=false/\u = .int .i64 3/\Bs=[[(a,iJ (.slice ad l.length c) ae note room vG vS)],D,O,B])\/(cQ l k (max (lG l k).b.length (x+m)) room=true/\u = .int .i64 0/\∃v l' bz c' D' E,l'=dT { lG l k with b:=Mz (lG l k).b (max (lG l k).b.length (x+m)) x b,ik:=rn (lG l k) x m,v:=v } false l/\HL (O++E) l' /\
   aC D' 81 130 (.slice bz l'.length c') l'.length (l'.flatMap aw.lay)/\Bs=[[(a,iJ (.slice bz l'.length c') ae note room vG vS)],D',O,E,B]):=by
 have hn:=cR k
 rw [decide_eq_true oZ] at hn
 have ic:=re a l aO ae note room vG vS ad c D hD k
 have bJ:=fun size hs=>Bp a l aO ae note room vG vS ad c D O hD hO k size hs fe
 have bR:=fun o hv=>HW a l aO ae note room vG vS ad c D hD o hv (fun x hx=>by obtain ⟨⟨ad,c,hv, -⟩, -⟩:=hO x hx;rw [hv];rfl)
 obtain ⟨⟨kK,cv,hv,Tb⟩,NI,Cj⟩:=aaz l aO O hO k
 have acM:eM l k=none->HX k=lG l k:=fun h=>by unfold lG;rw [h];rfl
 have acN:∀o,eM l k=some o->o=lG l k:=fun o h=>by unfold lG;rw [h];rfl
 have jW:=hD
 have mM:=aO.jd
 obtain ⟨o,ho⟩:∃o,o=lG l k:=⟨_,rfl⟩
 rw [<-ho] at hv Tb NI Cj acM acN ⊢
 have Hy:=o.ak
 have fJ:=o.bK (by rw [hv];rfl)
 have YR:o.lay[1]? = some (.slice kK o.b.length cv):=by rw [<-hv];exact aw.sU _
 rw [hv] at NI
 refine st func49 fun w0 => ?_
 refine gc hn ?_
 rintro _ _ ⟨rfl,rfl⟩
 have hs:IntKind.i64.wrap (65536 - (x:Int))=((65536 - x:Nat):Int):=by rw [IntWalk.i64_in _ oZ];omega
 refine ga ?_;intro xX
 refine gc ic ?_
 rintro _ _ ⟨⟨rfl,hn⟩ | ⟨i,o',rfl,hi,hn⟩,rfl⟩
 case' inl =>
  have e:=acM hn
  rw [<-xu,e]
 case' inr =>
  have e:=acN _ hn
  have bh:=(List.getElem?_eq_some_iff.1 hi).1
  obtain ⟨gD,off,rfl⟩:=jW.addr oZ
  have hs:=av aw.ak l i o' hi
  rw [e] at hs
  have Nu:=(HX k).ak
  rw [<-xu]
 all_goals
  obtain ⟨z,hz⟩:∃z,z=max o.b.length (x+m):=⟨_,rfl⟩
  rw [<-hz]
  have hfz:=bJ z oZ
  refine gi ?_ ?_ <;> intro Gr
  case' refine_1 =>
   have Jj:x+m=z:=oZ
   refine go ?_
   rw [Jj]
  case' refine_2 =>
   have Jj:o.b.length=z:=oZ
   rw [Jj]
  all_goals
   cases JX:cQ l k z room with
   | false =>
    rw [JX] at hfz
    refine gc hfz ?_
    rintro _ _ ⟨rfl,rfl⟩
    refine gz ?_
    exact fin (.inl ⟨rfl,rfl,rfl⟩) aa
   | true =>
    rw [JX] at hfz
    refine gc hfz ?_
    rintro _ _ ⟨rfl,rfl⟩
    have acO:=JW z o.b
    have mU:(au (dV z o.b)).length=z:=by rw [aq,ec]
    obtain ⟨nb,Cl⟩:∃nb,nb=Mz o.b z x b:=⟨_,rfl⟩
    have Rc:nb.length=z:=by rw [Cl];exact JV oZ
    rw [<-Cl]
    refine gm ?_;intro g14
    refine gy ?_
    by_cases HH:x<z\/x=0
    case' pos =>
     have Vv:=aay (b:=o.b) (x:=b) (size:=z) (a:=x) oZ
     rw [dP,<-Cl] at Vv
     refine gv ?_
     refine gy ?_
    case' neg =>
     have NH:b=[]:=eq_nil_of_length_eq_zero oZ
     have Vv:(au (dV z o.b)).take 0++(au b).take (min m 0)++(au (dV z o.b)).drop (0+min m 0)=au nb:=by
      rw [Cl,NH,Mz,Nat.min_zero];simp
     refine gve ?_
     refine gy ?_
    all_goals
     obtain ⟨ob,JT⟩:∃ob:Nat->aw,ob=fun j=>{ o with b:=nb,ik:=rn o x j,v:=.slice (some ⟨g14,0,none⟩) z z }:=⟨_,rfl⟩
     have e0:o.lay.set 1 (.slice (some ⟨g14,0,none⟩) z z)=(ob 0).lay:=by rw [aw.Vj,<-aw.XY _ nb,JT];simp only [MC]
     have e1:∀j,x+j<65536->(ob j).lay.set (66+(x+j) / 1024) (.bool true)=(ob (j+1)).lay:=fun j hj=>by rw [aw.uG _ oZ,JT];simp only [MD]
     have Vw:∀j,(ob j).lay.length=130:=fun j=>aw.ak _
     have Re:∀j,ob j={ o with b:=nb,ik:=rn o x j,v:=.slice (some ⟨g14,0,none⟩) z z }:=fun j=>by rw [JT]
     clear JT
     refine go ?_
     rw [e0]
     refine gl [0,2,3,10] (fun (j:Nat)=>[(15,.int .i64 j)]) (fun j=>[[(xX,ax (ob j).lay 81)]]) (fun j=>j<=m) (fun j=>m - j) 0 oZ ?_
     intro j hj
     have hoj:=Vw j
     by_cases br:j<m
     ·have e1:=e1 j oZ
      first | (exfalso;omega) | (refine gn ?_;rw [e1];exact ⟨j+1,by omega,by omega,ar,_,aa⟩)
     ·obtain rfl:j=m:=oZ
      have hpj:=bR (ob j) (by rw [Re];rfl)
      refine gc hpj ?_
      rintro _ _ ⟨bz,c',D',eJ,rfl⟩
      refine gz ?_
      refine fin (.inr ⟨rfl,rfl,.slice (some ⟨g14,0,none⟩) z z,dT (ob j) false l,bz,c',D',[(g14,ax (au nb) 5)],by rw [Re],fun q hq => ?_,eJ,rfl⟩) aa
      rcases lE hq with rfl | hq
      ·rw [Re]
       simp only [Rc]
       exact ⟨⟨_,z,rfl,Nat.le_refl _⟩,(ay (by rw [aq,Rc,Nat.mul_one]) (aP _) oZ z).sub fun y hy=>mem_append_right _ hy⟩
      ·exact ⟨(hO q hq).1,(hO q hq).2.sub fun y hy=>mem_append_left _ hy⟩
end
end Go.Proofs.YtpabnmeponmonaaGreatDoor
namespace Go.Sl
def yB (o:aw)(z n:Nat):aw:={ o with ik:=fun j=>if j<n then (if z<=1024*j then false else if z<1024*j+1024 then true else o.ik j) else o.ik j,born:=fun j=>if j<n/\z<=1024*j then 0 else o.born j }
def XZ (o:aw)(z:Nat):aw:=if z<o.b.length then yB o z 64 else o
theorem Rf (o:aw)(z:Nat):yB o z 0=o:=by
 cases o
 simp [yB]
theorem acP {o:aw}{z n:Nat}(hn:n<64)(h:z<=1024*n):((yB o z n).lay.set (66+n) (.bool false)).set (2+n) (.int .u64 0)=(yB o z (n+1)).lay:=by
 rw [aw.uG _ hn]
 refine (aw.xi _ hn 0).trans ?_
 congr 1
 simp only [yB,aw.mk.injEq,true_and,and_true]
 refine ⟨?_, ?_⟩ <;> funext j <;> try simp only [upd]
 ·by_cases c:j=n
  ·subst c;rw [if_pos rfl,if_pos ⟨by omega,h⟩]
  ·rw [if_neg c]
   by_cases d:j<n/\z<=1024*j
   ·rw [if_pos d,if_pos ⟨by omega,d.2⟩]
   ·rw [if_neg d,if_neg oZ]
 ·by_cases c:j=n
  ·subst c;rw [if_pos rfl,if_pos oZ,if_pos h]
  ·rw [if_neg c]
   by_cases d:j<n
   ·rw [if_pos d,if_pos (show j<n+1 by omega)]
   ·rw [if_neg d,if_neg oZ]
theorem acQ {o:aw}{z n:Nat}(hn:n<64)(h:¬z<=1024*n)(h2:z<1024*n+1024):(yB o z n).lay.set (66+n) (.bool true)=(yB o z (n+1)).lay:=by
 rw [aw.uG _ hn]
 congr 1
 simp only [yB,aw.mk.injEq,true_and,and_true]
 refine ⟨?_, ?_⟩ <;> funext j <;> try simp only [upd]
 ·by_cases c:j=n
  ·subst c;rw [if_neg oZ,if_neg oZ]
  ·by_cases d:j<n/\z<=1024*j
   ·rw [if_pos d,if_pos ⟨by omega,d.2⟩]
   ·rw [if_neg d,if_neg oZ]
 ·by_cases c:j=n
  ·subst c;rw [if_pos rfl,if_pos oZ,if_neg h,if_pos h2]
  ·rw [if_neg c]
   by_cases d:j<n
   ·rw [if_pos d,if_pos (show j<n+1 by omega)]
   ·rw [if_neg d,if_neg oZ]
theorem acR {o:aw}{z n:Nat}(h2:¬z<1024*n+1024):yB o z n=yB o z (n+1):=by
 simp only [yB,aw.mk.injEq,true_and,and_true]
 refine ⟨?_, ?_⟩ <;> funext j
 ·by_cases d:j<n/\z<=1024*j
  ·rw [if_pos d,if_pos ⟨by omega,d.2⟩]
  ·rw [if_neg d,if_neg oZ]
 ·by_cases c:j=n
  ·subst c;rw [if_neg oZ,if_pos oZ,if_neg oZ,if_neg h2]
  ·by_cases d:j<n
   ·rw [if_pos d,if_pos (show j<n+1 by omega)]
   ·rw [if_neg d,if_neg oZ]
end Go.Sl
namespace Go.Proofs.YtpabnmeponmonaaGreatDoor
section
variable (a:Nat)(l:List aw)(aO:kN l)(ae note room:Nat)(fe:room<=100000)(vG vS:Value)(ad:Option Addr)(c:Nat)(D O:Chunk)(hD:Rd D 130 (.slice ad l.length c) l.length (l.flatMap aw.lay))(hO:HL O l)
theorem Fi (k z:Int)(h:¬(1<=k/\k<=112)\/z<0\/65536<z):Ct 51 [ptr a,.int .i64 k,.int .i64 z] [] fun u Bs=>u = .int .i64 1/\Bs=[]:=by
 have hn:=cR k
 refine st func51 fun w0 => ?_
 refine gc hn ?_
 rintro _ _ ⟨rfl,rfl⟩
 by_cases hk:1<=k/\k<=112
 ·rw [decide_eq_true hk]
  have h:=h.resolve_left (fun c=>c hk)
  by_cases hx:z<0
  ·refine gz ?_
   exact fin ⟨rfl,rfl⟩ aa
  ·have h:=h.resolve_left hx
   refine gz ?_
   exact fin ⟨rfl,rfl⟩ aa
 ·rw [decide_eq_false hk]
  refine gz ?_
  exact fin ⟨rfl,rfl⟩ aa
include aO hD hO fe
theorem sZ (k:Int)(hk:1<=k/\k<=112)(z:Nat)(hz:z<=65536) :
  Ct 51 [ptr a,.int .i64 k,.int .i64 z] [[(a,iJ (.slice ad l.length c) ae note room vG vS)],D,O] fun u Bs=>(eM l k=none/\u = .int .i64 130/\Bs=[[(a,iJ (.slice ad l.length c) ae note room vG vS)],D,O])\/∃o,eM l k=some o/\((cQ l k z room=false/\u = .int .i64 3/\Bs=[[(a,iJ (.slice ad l.length c) ae note room vG vS)],D,O])\/(cQ l k z room=true/\u = .int .i64 0/\∃v l' bz c' D' E,l'=dT { XZ o z with b:=dV z o.b,v:=v } false l/\HL (O++E) l' /\
   aC D' 81 130 (.slice bz l'.length c') l'.length (l'.flatMap aw.lay)/\Bs=[[(a,iJ (.slice bz l'.length c') ae note room vG vS)],D',O,E])):=by
 have hn:=cR k
 rw [decide_eq_true oZ] at hn
 have ic:=re a l aO ae note room vG vS ad c D hD k
 have bJ:=Bp a l aO ae note room vG vS ad c D O hD hO k z hz fe
 have bR:=fun o hv=>HW a l aO ae note room vG vS ad c D hD o hv (fun x hx=>by obtain ⟨⟨ad,c,hv, -⟩, -⟩:=hO x hx;rw [hv];rfl)
 have jW:=hD
 have mM:=aO.jd
 refine st func51 fun w0 => ?_
 refine gc hn ?_
 rintro _ _ ⟨rfl,rfl⟩
 refine gc ic ?_
 rintro _ _ ⟨⟨rfl,hn⟩ | ⟨i,o,rfl,hi,hn⟩,rfl⟩
 ·refine gz ?_
  exact fin (.inl ⟨hn,rfl,rfl⟩) aa
 ·have bh:=(List.getElem?_eq_some_iff.1 hi).1
  have rT:=mem_of_getElem? hi
  have Cj:=aO.sm o rT
  obtain ⟨⟨kK,cv,hv,Tb⟩,NI⟩:=hO o rT
  rw [hv] at NI
  obtain ⟨gD,off,rfl⟩:=jW.addr oZ
  have hs:=av aw.ak l i o hi
  have Hy:=o.ak
  have fJ:=o.bK (by rw [hv];rfl)
  have YR:o.lay[1]? = some (.slice kK o.b.length cv):=by rw [<-hv];exact aw.sU _
  refine gc bJ ?_
  rintro _ _ ⟨rfl,rfl⟩
  cases JX:cQ l k z room with
  | false =>
   refine gz ?_
   exact fin (.inr ⟨o,hn,.inl ⟨rfl,rfl,rfl⟩⟩) aa
  | true =>
   have acO:=JW z o.b
   obtain ⟨nb,Cl⟩:∃nb,nb=dV z o.b:=⟨_,rfl⟩
   have Rc:nb.length=z:=by rw [Cl];exact ec ..
   rw [<-Cl] at acO
   refine ga ?_;intro xX
   refine gm ?_;intro g11
   refine gy ?_
   have hT1:∀n,(yB o z n).lay[1]? = some (.slice kK o.b.length cv):=fun n=>by rw [<-hv];exact aw.sU _
   have hTl:∀n,(yB o z n).lay.length=130:=fun n=>aw.ak _
   obtain ⟨oe,X8⟩:∃oe,oe=XZ o z:=⟨_,rfl⟩
   refine gi ?_ ?_ <;> intro YS
   case' refine_1 =>
    have he:XZ o z=yB o z 64:=if_pos oZ
    have hq:=X8.trans he
    rw [show o.lay=(yB o z 0).lay by rw [Rf]]
    refine gl [0,1,2,10,11] (fun (j:Nat)=>[(12,.int .i64 j)]) (fun j=>[[(xX,ax (yB o z j).lay 81)]]) (fun j=>j<=64) (fun j=>64 - j) 0 oZ ?_
    intro j hj
    have hTj:=hTl j
    refine gi ?_ ?_ <;> intro br
    ·have acS:j<64:=oZ
     refine gi ?_ ?_ <;> intro hc
     ·have e:=acP (o:=o) (z:=z) acS oZ
      have hT2:((yB o z j).lay.set (66+j) (.bool false)).length=130:=by rw [length_set];exact hTj
      refine gn ?_
      rw [e]
      exact ⟨j+1,by omega,by omega,ar,_,aa⟩
     ·refine gi ?_ ?_ <;> intro XG
      ·have e:=acQ (o:=o) (z:=z) acS oZ oZ
       refine gn ?_
       rw [e]
       exact ⟨j+1,by omega,by omega,ar,_,aa⟩
      ·have e:=acR (o:=o) (z:=z) (n:=j) oZ
       refine gn ?_
       rw [e]
       exact ⟨j+1,by omega,by omega,ar,_,aa⟩
    obtain rfl:j=64:=oZ
    rw [<-hq]
   case' refine_2 =>
    have he:XZ o z=o:=if_neg oZ
    have hq:=X8.trans he
    rw [show o.lay=oe.lay by rw [hq]]
   all_goals
    have Kw:=oe.ak
    have e1:oe.lay.set 1 (.slice (some ⟨g11,0,none⟩) z z)=({ oe with b:=nb,v:=.slice (some ⟨g11,0,none⟩) z z }:aw).lay:=by rw [aw.Vj,<-aw.XY _ nb]
    have hpj:=bR { oe with b:=nb,v:=.slice (some ⟨g11,0,none⟩) z z } rfl
    have afo:=({ oe with b:=nb,v:=.slice (some ⟨g11,0,none⟩) z z }:aw).ak
    refine go ?_
    rw [e1]
    refine gc hpj ?_
    rintro _ _ ⟨bz,c',D',eJ,rfl⟩
    refine gz ?_
    refine fin (.inr ⟨_,hn,.inr ⟨rfl,rfl,.slice (some ⟨g11,0,none⟩) z z,_,bz,c',D',[(g11,ax (au nb) 5)],by rw [X8,Cl],fun q hq => ?_,eJ,rfl⟩⟩) aa
    rcases lE hq with rfl | hq
    ·simp only [Rc]
     exact ⟨⟨_,z,rfl,Nat.le_refl _⟩,(ay (by rw [aq,Rc,Nat.mul_one]) (aP _) oZ z).sub fun y hy=>mem_append_right _ hy⟩
    ·exact ⟨(hO q hq).1,(hO q hq).2.sub fun y hy=>mem_append_left _ hy⟩
end
end Go.Proofs.YtpabnmeponmonaaGreatDoor
namespace Go.Sl
theorem tI {L:List aw}{r:List Value}{i:Nat}{o:aw}(h:L[i]? = some o){j:Nat}{v:Value}(hv:o.lay[j]? = some v):(L.flatMap aw.lay++r)[i*130+j]? = some v:=by
 have hs:=av aw.ak L i o h j v hv
 rw [getElem?_append_left (List.getElem?_eq_some_iff.1 hs).1]
 exact hs
theorem jz {r:List Value}{j:Nat}{v:Value}{o o':aw}(hj:j<130)(e:o.lay.set j v=o'.lay):∀ {L:List aw} {i:Nat},L[i]? = some o->(L.flatMap aw.lay++r).set (i*130+j) v=(L.set i o').flatMap aw.lay++r
 | [],i,h=>by simp at h
 | x :: l,0,h=>by
  have:x=o:=by simpa using h
  subst this
  rw [Nat.zero_mul,Nat.zero_add,set_cons_zero,flatMap_cons,flatMap_cons,append_assoc,append_assoc,set_append_left _ _ (by rw [aw.ak];exact hj),e]
 | x :: l,i+1,h=>by
  have ih:=jz (r:=r) hj e (L:=l) (i:=i) (by simpa using h)
  rw [set_cons_succ,flatMap_cons,flatMap_cons,append_assoc,append_assoc,<-ih,set_append_right _ _ (by rw [aw.ak];omega),aw.ak,show (i+1)*130+j - 130=i*130+j by omega]
theorem fO {x:List UInt8}:bx x=true↔∀y∈x,y=0:=by
 unfold bx
 rw [decide_eq_true_iff,eq_replicate_iff]
 simp
theorem Bw (L:List aw)(r:List Value):(L.flatMap aw.lay++r).length=L.length*130+r.length:=by rw [length_append,gA aw.ak]
end Go.Sl
namespace Go.Proofs.YtpabnmeponmonaaGreatDoor
def MF (D:Chunk)(v:Value)(n:Nat)(xs:List Value):Prop:=Rd D 130 v n xs/\(n=0\/∃g c r,v = .slice (some ⟨g,0,none⟩) n c/\D=[(g,ax (xs++r) 81)])
theorem MF.of {D:Chunk}{v:Value}{n:Nat}{xs:List Value}(h:aC D 81 130 v n xs):MF D v n xs:=by
 refine ⟨h.rd, ?_⟩
 rcases h.2.2 with ⟨-,h, -⟩ | ⟨g,c,r,h1,h2, -⟩
 ·exact .inl h
 ·exact .inr ⟨g,c,r,h1,h2⟩
theorem MG (v:Value)(O:Chunk)(b:List UInt8)(n:Nat)(hb:b.length=n)(hR:Rd O 1 v n (au b)):Ct 24 [v] [O] fun u Bs=>u = .bool (bx b)/\Bs=[O]:=by
 obtain ⟨ad,c,rfl⟩:=hR.slice
 have G1:=hR.2.2.1
 simp only [maxLen] at G1
 refine st func24 fun w0 => ?_
 refine gl [0] (fun (i:Nat)=>[(3,.int .i64 i)]) (fun _=>[]) (fun i=>i<=n/\∀x∈b.take i,x=0) (fun i=>n - i) 0 ⟨by omega,by simp⟩ ?_
 rintro i ⟨hi,h0⟩
 refine gi ?_ ?_ <;> intro br
 ·have bh:i<b.length:=oZ
  obtain ⟨g,o,rfl⟩:=hR.addr oZ
  have hx:b[i]? = some b[i]:=getElem?_eq_getElem bh
  refine gi ?_ ?_ <;> intro ey
  ·have e:bx b=false:=by
    rw [Bool.eq_false_iff]
    intro hc
    have:=(fO.1 hc) b[i] (getElem_mem _)
    rw [this] at ey
    simp at ey
   rw [e]
   refine gz ?_
   exact fin ⟨rfl,rfl⟩ aa
  ·have hz:b[i]=0:=by
    have:b[i].toNat=0:=by simpa using ey
    exact UInt8.toNat_inj.1 (by simpa using this)
   refine gn ?_
   refine ⟨i+1,⟨by omega,fun x hx => ?_⟩,by omega,ar,_,aa⟩
   rw [aK b bh] at hx
   rcases List.mem_append.1 hx with hx | hx
   ·exact h0 x hx
   ·rw [mem_singleton.1 hx];exact hz
 ·obtain rfl:i=n:=oZ
  rw [take_of_length_le oZ] at h0
  have e:bx b=true:=fO.2 h0
  rw [e]
  refine gz ?_
  exact fin ⟨rfl,rfl⟩ aa
end Go.Proofs.YtpabnmeponmonaaGreatDoor
namespace Go.Sl
section
variable {P:Program}{w:World}{a:Act}{o:Oper}{n:Nat}{e:Env}{ds:List Deferred}{w0:World}{As Ls Rs:List Chunk}{K:Act->World->Prop}{Q:Exit->Act->World->Prop}{x y:Operand}{v:Value}
theorem lH (w:World)(t tx ty T:TypeId)(kk:IntKind)(i:TypeInfo)(zv:Value)(ht:P.underlying t=some (.slice T))(xU:P.underlying tx=some (.int kk))(hi:P.info? T=some i)(hz:i.zero=some zv)(base:Option Addr)(n c m:Nat)(xs:List Value)
  (hold:(Builtin.firstCells i.size n (.slice base n c)).run P w.drew = .ok xs.toArray w.drew) (hm:0<m) (bu:0<i.size) (hc:c<n+m) (zT:((n+m:Nat):Int)<=9223372036854775807) (hb:(n+m)*i.bytes<=140737488355328) :
  (Builtin.append_ #[t,tx] ty #[.slice base n c,.int kk m]).run P w = .ok (.slice (some ⟨w.heap.size,0,none⟩) (n+m) (grownCap w (n+m) c T)) (w.drew.alloc (.cells (xs.toArray++Builtin.zeroCells zv.cells m++Builtin.zeroCells zv.cells (grownCap w (n+m) c T - (n+m))) T)):=by
 have hw:IntKind.i64.wrap (m:Int)=m:=IntWalk.i64_in _ oZ
 have h1:¬(281474976710656<(m:Int)*(i.bytes:Int)):=by
  have h0:m*i.bytes<=(n+m)*i.bytes:=Nat.mul_le_mul_right _ oZ
  have h:((m*i.bytes:Nat):Int)<=140737488355328:=oZ
  rw [Int.natCast_mul] at h;omega
 have h2:¬n+m<=c:=oZ
 have h3:¬i.size=0:=oZ
 have h4:¬(9223372036854775807<((n:Int)+(m:Int))):=oZ
 have h5:¬(281474976710656<Builtin.nextslicecap (n+m) c*i.bytes):=by have:=growslice_fits (need:=n+m) (old:=c) (bytes:=i.bytes) oZ hb;omega
 have h6:¬((m:Int)<0):=oZ
 have h7:¬m*i.size=0:=Nat.ne_of_gt (Nat.mul_pos hm bu)
 simp [Builtin.append_,h6,h7,run_underlying ht,run_underlying xU,sizeOf,typeInfo,zeroValue,hi,hz,hw,h1,h2,h3,h4,h5,Question.forced,newRow,grownCap,asInt,asIntOf,hold]
theorem tY {C:Chunk}{T t tx ty:TypeId}{kk:IntKind}{i:TypeInfo}{zv:Value}{m:Nat}{xs ys:List Value}(hB:aC C T i.size v n xs)(hC:∀x∈C,w.heap[x.1]? = some x.2)
  (ht:P.underlying t=some (.slice T)) (xU:P.underlying tx=some (.int kk)) (hi:P.info? T=some i) (hz:i.zero=some zv) (S0:zv.cells.size=i.size) (hy:(Builtin.zeroCells zv.cells m).toList=ys) (h1:∀u∈ys,u.oneCell'=true) (hm:0<m) (vg:0<i.size)
  (zT:n+m<=maxLen) (yj:(n+m)*i.bytes<=140737488355328) :
  ∃v' w' C',(Builtin.append_ #[t,tx] ty #[v,.int kk m]).run P w = .ok v' w'/\aC C' T i.size v' (n+m) (xs++ys)/\mR w w' [C] [C']:=by
 have Xe:ys.length=m*i.size:=by rw [<-hy,Array.length_toList,size_zeroCells,S0]
 have hya:Builtin.zeroCells zv.cells m=ys.toArray:=by rw [<-hy,Array.toArray_toList]
 have hlen:(xs++ys).length=(n+m)*i.size:=by rw [length_append,hB.1,Xe,Nat.add_mul]
 have fJ:∀z∈xs++ys,z.oneCell'=true:=fun z hz=>(List.mem_append.1 hz).elim (hB.2.1 z) (h1 z)
 have u9:((n+m:Nat):Int)<=9223372036854775807:=by simp only [maxLen] at zT;omega
 have grown:∀(old:Nat) (C:Chunk),old<n+m ->
   aC [(w.heap.size,.cells (xs.toArray++Builtin.zeroCells zv.cells m++Builtin.zeroCells zv.cells (grownCap w (n+m) old T - (n+m))) T)] T i.size (.slice (some ⟨w.heap.size,0,none⟩) (n+m) (grownCap w (n+m) old T)) (n+m) (xs++ys) /\
   mR w (w.drew.alloc (.cells (xs.toArray++Builtin.zeroCells zv.cells m++Builtin.zeroCells zv.cells (grownCap w (n+m) old T - (n+m))) T)) [C] [[(w.heap.size,.cells (xs.toArray++Builtin.zeroCells zv.cells m++Builtin.zeroCells zv.cells (grownCap w (n+m) old T - (n+m))) T)]]:=by
  intro old C ho
  have yS:=grownCap_ge w (n+m) old T
  have ng:grownCap w (n+m) old T<=maxLen:=grownCap_le_maxLen w (n+m) old T zT
  refine ⟨⟨hlen,fJ,.inr ⟨w.heap.size,_,(Builtin.zeroCells zv.cells (grownCap w (n+m) old T - (n+m))).toList,rfl, ?_,yS,ng, ?_⟩⟩, ?_⟩
  ·rw [hya];simp [ax]
  ·rw [hlen]
   simp only [Array.length_toList,size_zeroCells,S0,<-Nat.add_mul]
   congr 1
   omega
  ·unfold mR
   simp only [flatten_cons,flatten_nil,append_nil]
   exact Tr.drop (C:=C) (Tr.pre (uV w.drew _ C))
 rcases hB.2.2 with ⟨rfl,rfl,rfl⟩ | ⟨g,c,r,rfl,rfl,hnc,ng,N1⟩
 ·have hx:xs=[]:=eq_nil_of_length_eq_zero (by simpa using hB.1)
  subst hx
  have hr:=lH (P:=P) w t tx ty T kk i zv ht xU hi hz none 0 0 m [] (run_firstCells_none w.drew i.size 0 0 0) hm vg oZ u9 yj
  obtain ⟨h1,h2⟩:=grown 0 [] oZ
  exact ⟨_,_,_,hr,h1,h2⟩
 ·have hg:w.heap[g]? = some (ax (xs++r) T):=hC _ (mem_singleton.2 rfl)
  by_cases fe:n+m<=c
  ·have bJ:n*i.size+ys.length<=(xs++r).length:=by
    rw [Xe,<-Nat.add_mul,length_append,N1];exact Nat.mul_le_mul_right _ fe
   have bB:=run_storeCells_at P g (n*i.size) T ys 0 (xs++r).toArray w hg (by simpa using bJ) h1
   simp only [Nat.add_zero] at bB
   have e1:(xs++r).take (n*i.size)++ys++(xs++r).drop (n*i.size+ys.length)=xs++ys++r.drop ys.length:=by
    rw [<-hB.1,take_left,<-drop_drop,drop_left]
   rw [e1] at bB
   have hw:IntKind.i64.wrap (m:Int)=m:=IntWalk.i64_in _ oZ
   have q1:¬(281474976710656<(m:Int)*(i.bytes:Int)):=by
    have h0:m*i.bytes<=(n+m)*i.bytes:=Nat.mul_le_mul_right _ oZ
    have h:((m*i.bytes:Nat):Int)<=140737488355328:=oZ
    rw [Int.natCast_mul] at h;omega
   have q6:¬((m:Int)<0):=oZ
   have q7:¬m*i.size=0:=Nat.ne_of_gt (Nat.mul_pos hm vg)
   refine ⟨.slice (some ⟨g,0,none⟩) (n+m) c,w.setRow g (xs++ys++r.drop ys.length).toArray,[(g,ax (xs++ys++r.drop ys.length) T)], ?_,⟨hlen,fJ,.inr ⟨g,c,r.drop ys.length,rfl,rfl,fe,ng, ?_⟩⟩,mR.row⟩
   ·simp [Builtin.append_,run_underlying ht,run_underlying xU,sizeOf,typeInfo,zeroValue,hi,hz,hw,q1,q6,q7,asInt,asIntOf,fe,Addr.add_lit,hya,bB]
   ·have:=hB.1
    rw [length_append] at bJ ⊢
    rw [length_drop]
    omega
  ·have hold:(Builtin.firstCells i.size n (.slice (some ⟨g,0,none⟩) n c)).run P w.drew = .ok xs.toArray w.drew :=
    run_firstCells_some w.drew i.size n ⟨g,0,none⟩ n c xs hB.1 fun j z hz=>by
     rw [Addr.add_lit,World.cell?_drew,jq hg]
     have hj:j<xs.length:=(List.getElem?_eq_some_iff.1 hz).1
     simp only [Nat.zero_add,getElem?_toArray,getElem?_append_left hj]
     exact hz
   have hr:=lH (P:=P) w t tx ty T kk i zv ht xU hi hz (some ⟨g,0,none⟩) n c m xs hold hm vg oZ u9 yj
   obtain ⟨h1,h2⟩:=grown c [(g,ax (xs++r) T)] oZ
   exact ⟨_,_,_,hr,h1,h2⟩
end
section
variable {X:Cx}{f:Fx}{k:Kt}{e:Env}{Ls Rs Ms:List Chunk}{ops:List Oper}{r':aB}{κ d:Nat}{t:TypeId}{v:Value}
theorem WD.afp {C:Chunk}{el tx:TypeId}{x y:Operand}{ja m s n:Nat}{kk:IntKind}{q:Int}{zv:Value}{xs:List Value}(hκ:dR κ=true)(hx:ev e x=some v)(hy:ev e y=some (.int kk q))(hT:X.T.Ok X.P)(hq:q=(m:Int))(hi:I1 X.T t=some (el,s,ja,zv))(xU:X.T.kW tx=some (.int kk))(hB:aC C el s v n xs)(hp:Ls.Perm (C :: Rs))(h1:(Builtin.zeroCells zv.cells m).toList.all (·.oneCell')=true)(hb:0<s/\0<m/\n+m<=maxLen/\(n+m)*ja<=140737488355328)
  (hM:cZ κ Ms Rs) (g:∀ad c C',aC C' el s (.slice ad (n+m) c) (n+m) (xs++(Builtin.zeroCells zv.cells m).toList)->WO X f ops k Ms r' ((d,.slice ad (n+m) c) :: e) (C' :: Rs)):WD X f ops k Ms κ (some d) (.call ⟨.builtin .append,⟨[x,y]⟩,⟨[t,tx]⟩⟩) r' e Ls:=by
 obtain ⟨i,g1,g2,g3,g4,g5,g6⟩:=jb hT hi
 subst hq g4 g6
 refine .ac hκ fun o a w ho hd hn E S => ?_
 have hC:∀x∈C,w.heap[x.1]? = some x.2:=S.kE.at (hp.mem_iff.2 (mem_cons_self ..))
 obtain ⟨v',w',C',hr,Ci,hT'⟩:=tY (P:=X.P) (w:=w) (ty:=o.type) hB hC g1 (aW.aU hT xU) g2 g3 g5 rfl (all_eq_true.1 h1) hb.2.1 hb.1 hb.2.2.1 hb.2.2.2
 have dQ:ab X.P o a w v' w':=by
  simp [ab,execOp,ho,resolve,invoke,builtin,E.eval hx,E.eval hy,hr]
 refine dQ.wp ?_
 rw [hd]
 obtain ⟨ad,c,rfl⟩:=Ci.slice
 exact KO.mk rfl (fun h C hC=>mem_cons_of_mem _ (hM h C hC)) (g ad c C' Ci) (E.put (hn d rfl) _) ((S.perm hp).Xb (CG (kR _ _) (IK _)) hT')
end
end Go.Sl
namespace Go.Proofs.YtpabnmeponmonaaGreatDoor
theorem gpn {G H:Prop}(k:H)(h:im H->G:=by
 intro kk;refine go ?_;refine WO.dec rfl ?_
 apply WD.afp;exact rfl;exact rfl;exact rfl;exact aD;exact nn;exact rfl;exact rfl;assumption;exact pick;decide +kernel;(refine ⟨?_, ?_, ?_, ?_⟩ <;> (try simp only [maxLen]) <;> omega);exact keeps;exact kk.out):G:=h ⟨k⟩
end Go.Proofs.YtpabnmeponmonaaGreatDoor
