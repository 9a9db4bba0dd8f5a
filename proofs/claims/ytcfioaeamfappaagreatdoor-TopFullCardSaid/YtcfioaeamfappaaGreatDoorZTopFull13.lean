/-
  Texts put together (13).
-/
import Derived.Test.YtcfioaeamfappaaGreatDoorZTopFull12
namespace Go.Sl
def wg (b:Nat×List UInt8)(s:eF):Nat×List UInt8:=if gA s&&decide (b.1<fo s) then (fo s,J5 s) else b
def pZ (R:Rk)(ls:List (Option Lv))(k j:Nat):Nat×List UInt8:=(ls.take j).foldl (fun b o=>match o with | some x=>wg b (R.now x.i (18+k)) | none=>b) (0,List.replicate 88 0)
def tD (R:Rk)(ls:List (Option Lv))(k:Nat):List UInt8:=if R.off then List.replicate 88 0 else (pZ R ls k ls.length).2
theorem wh {R:Rk}{ls:List (Option Lv)}{k j:Nat}{x:Lv}(h:ls[j]? = some (some x)):pZ R ls k (j+1)=wg (pZ R ls k j) (R.now x.i (18+k)):=by
 obtain ⟨jg,he⟩:=List.getElem?_eq_some_iff.1 h
 unfold pZ
 rw [List.take_succ_eq_append_getElem jg,he,List.foldl_append];rfl
theorem yw {R:Rk}{ls:List (Option Lv)}{k:Nat}(h:∀x,some x∈ls->(R.now x.i (18+k)).length=128):∀j,(pZ R ls k j).2.length=88:=by
 intro j
 unfold pZ
 have:∀(l:List (Option Lv)) (b:Nat×List UInt8),(∀x,some x∈l->(R.now x.i (18+k)).length=128)->b.2.length=88->(l.foldl (fun b o=>match o with | some x=>wg b (R.now x.i (18+k)) | none=>b) b).2.length=88:=by
  intro l
  induction l with
  | nil=>intro b _ hb;exact hb
  | cons o l ih =>
   intro b hl hb
   rw [List.foldl_cons]
   refine ih _ (fun x hx=>hl x (List.mem_cons_of_mem _ hx)) ?_
   rcases o with _ | x
   ·exact hb
   ·simp only [wg]
    split
    ·exact zM (hl x (List.mem_cons_self ..))
    ·exact hb
 exact this _ _ (fun x hx=>h x (List.mem_of_mem_take hx)) (by simp)
def nY (s:List UInt8)(o:Nat)(b:List UInt8):List UInt8:=s.take o++b.take (min b.length (88 - o))++s.drop (o+min b.length (88 - o))
theorem yx {s b:List UInt8}{o:Nat}(hs:s.length=88)(ho:o<88):(nY s o b).length=88:=by simp [nY,hs];omega
def jH (ls:List (Option Lv))(k no:Nat)(s:List UInt8)(i:Nat):List Ev:=match ls[i]? with
 | some (some x)=>fS x.i (18+k) [iV no s]
 | _=>[]
theorem DV (ls:List (Option Lv))(k no:Nat)(s:List UInt8)(i:Nat):(jH ls k no s i).length<=1:=by
 unfold jH;split
 ·rw [fm];simp
 ·simp
def bP (ls:List (Option Lv)):Nat->Rk->Nat->Nat->List UInt8->Rk×Nat
 | 0,R,no,_,_=>(R,no)
 | f+1,R,no,at_,b=>if b=[] then (R,no) else
  let R':=R.run (upto (jH ls (at_ / 88) no (nY (tD R ls (at_ / 88)) (at_ % 88) b)) ls.length)
  if R'.off then (R',no) else bP ls f R' (no+1) (at_+min b.length (88 - at_ % 88)) (b.drop (min b.length (88 - at_ % 88)))
theorem yy (ls:List (Option Lv)):∀(f f':Nat) (R:Rk) (no at_:Nat) (b:List UInt8),b.length<=f->b.length<=f'->bP ls f R no at_ b=bP ls f' R no at_ b
 | 0,0,_,_,_,_,_,_=>rfl
 | 0,f'+1,R,no,at_,b,h,_=>by
  obtain rfl:=List.eq_nil_of_length_eq_zero (by omega:b.length=0)
  simp [bP]
 | f+1,0,R,no,at_,b,_,h=>by
  obtain rfl:=List.eq_nil_of_length_eq_zero (by omega:b.length=0)
  simp [bP]
 | f+1,f'+1,R,no,at_,b,h,h'=>by
  unfold bP
  by_cases hb:b=[]
  ·rw [if_pos hb,if_pos hb]
  ·rw [if_neg hb,if_neg hb]
   have:0<b.length:=List.length_pos_iff.2 hb
   have hd:(b.drop (min b.length (88 - at_ % 88))).length+1<=b.length:=by rw [List.length_drop];omega
   simp only
   rw [yy ls f f' _ _ _ _ oZ oZ]
theorem T5 {R:Rk}{ls:List (Option Lv)}{k:Nat}(h:∀x,some x∈ls->(R.now x.i (18+k)).length=128):(tD R ls k).length=88:=by
 unfold tD;split
 ·simp
 ·exact yw h _
end Go.Sl
namespace Go.Proofs.YtcfioaeamfappaaGreatDoor
open Go.Sl
set_option maxRecDepth 10000
set_option maxHeartbeats 4000000
section
variable (T:TypeId)(fr:Nat×Nat)(p:Nat)(qs:List Nat)(t pool:Nat)(tp:Tp)(pr:Bool)(n:Nat)(ls:List (Option Lv))(no:Nat)(V:Chunk)(hV:jd t pool tp pr n ls no V)(ok:dE tp pr n ls.length)(hall:∀x∈ls,x≠none)
include hV ok hall
theorem DY (R:Rk)(C:Chunk)(hC:br p qs R C)(ho:dI qs R n ls)(k:Nat)(hk:k<256):Ct 166 [ptr t,.int .i64 k] [gK T fr,C,V] fun u Bs=>∃g,u = .slice (some ⟨g,0,none⟩) 88 88/\Bs=[[(g,av (ak (tD R ls k)) 5)],gK T fr,C,V]:=by
 have ha:=GH t pool tp pr n ls no V hV ok hall
 have j4:=ok.hw
 have hn:=ok.hn
 have fM:∀x,some x∈ls->(R.now x.i (18+k)).length=128:=fun x hx=>by
  obtain ⟨o1,o2,o3⟩:=ho x hx
  exact (kF hC.ok (i:=x.i) (a:=18+k) oZ).2
 have hlen:=yw fM
 obtain ⟨F,hF⟩:∃F:Nat->Nat×List UInt8,F=fun j=>if R.off then (0,List.replicate 88 0) else pZ R ls k j:=⟨_,rfl⟩
 have hF0:F 0=(0,List.replicate 88 0):=by rw [hF];simp only;split <;> rfl
 have hFl:∀j,(F j).2.length=88:=fun j=>by rw [hF];simp only;split <;> first | exact hlen j | simp
 have hFe:(F ls.length).2=tD R ls k:=by rw [hF];unfold tD;simp only;split <;> rfl
 rw [<-hFe]
 refine st Tryz.func166 fun w0 => ?_
 refine gm ?_;intro g
 rw [show List.replicate 88 (Value.int .u8 0)=ak (F 0).2 by rw [hF0];exact Oh 88]
 refine gc ha ?_
 rintro _ _ ⟨Ca,Wq,rfl⟩
 obtain ⟨m,M,fU,cT,DT,dP,cI,DI,jS,cL,DL,ov,cl,Dl,vD,DD,L,hT,hI,wU,hl,hM,hL,rfl⟩:=hV
 obtain ⟨Wa,ca,rfl⟩:=Wq.slice
 have har:=Wq.rd
 obtain ⟨ga_,oa,rfl⟩:=har.addr oZ
 refine gs ?_
 refine gl [1,5,14,15] (fun ((j,z):Nat×Nat)=>[(16,.int .i64 j),(6,.int .u64 z)]) (fun (j,_)=>[[(g,av (ak (F j).2) 5)]]) (fun (j,z)=>j<=ls.length/\z=(F j).1) (fun (j,_)=>ls.length - j) (0,0) ⟨by omega,by rw [hF0]⟩ ?_
 rintro ⟨j,z⟩ ⟨hj,rfl⟩
 refine gi ?_ ?_ <;> intro bh
 ·obtain ⟨oy,hy⟩:=eB (l:=ls) (i:=j) oZ
  rcases oy with _ | y
  ·exact absurd rfl (hall _ (List.mem_of_getElem? hy))
  obtain ⟨o1,o2,o3⟩:=ho y (List.mem_of_getElem? hy)
  have bV:(ls.map iv)[j]? = some (ptr y.a):=by rw [List.getElem?_map,hy];rfl
  have qD:R.off=false->F (j+1)=wg (F j) (R.now y.i (18+k)):=fun h=>by rw [hF];simp only [h];exact wh hy
  have hny:R.off=true->F (j+1)=F j:=fun h=>by rw [hF];simp only [h];rfl
  have hsy:=fM y (List.mem_of_getElem? hy)
  have hFj:=hFl j
  obtain ⟨A,L1,B,pL,rfl⟩:=hL.at hy
  refine gs ?_
  refine gc (Il T fr p qs R C hC y.i y.q n y.a _ L1 pL o1 o2 o3 k hk oZ) ?_
  rintro _ _ (⟨dN,rfl,rfl⟩ | ⟨dN,jw,rfl,rfl⟩ | ⟨dN,jw,g2,rfl,rfl⟩)
  ·have e:=hny dN
   refine gn ?_
   exact ⟨(j+1,(F j).1),⟨by omega,by rw [e]⟩,by simp only;omega,aq,_,by simp only [e];exact aa⟩
  ·have e:F (j+1)=F j:=by rw [qD dN,wg,jw];rfl
   refine gn ?_
   exact ⟨(j+1,(F j).1),⟨by omega,by rw [e]⟩,by simp only;omega,aq,_,by simp only [e];exact aa⟩
  ·have hb:=zM hsy
   generalize R.now y.i (18+k)=s at *
   refine gi ?_ ?_ <;> intro ib
   ·have e:F (j+1)=(fo s,J5 s):=by rw [qD dN,wg,jw,decide_eq_true (show (F j).1<fo s by omega)];rfl
    have zI:(ak (F j).2).take 0++(ak (J5 s)).take (min 88 88)++(ak (F j).2).drop (0+min 88 88)=ak (F (j+1)).2:=by
     rw [Nat.min_self,List.take_zero,List.nil_append,List.take_of_length_le (by rw [ai];omega),List.drop_of_length_le (by rw [ai];omega),List.append_nil,e]
    have hg2:Rd [(g2,av (ak (J5 s)) 5)] 1 (.slice (some ⟨g2,0,none⟩) 88 88) 88 (ak (J5 s)):=aw (by rw [ai,hb]) (aK _) oZ _
    refine gy ?_
    refine gn ?_
    exact ⟨(j+1,fo s),⟨by omega,by rw [e]⟩,by simp only;omega,aq,_,aa⟩
   ·have e:F (j+1)=F j:=by rw [qD dN,wg,jw,decide_eq_false (show ¬(F j).1<fo s by omega)];rfl
    refine gn ?_
    exact ⟨(j+1,(F j).1),⟨by omega,by rw [e]⟩,by simp only;omega,aq,_,by simp only [e];exact aa⟩
 ·obtain rfl:j=ls.length:=by omega
  refine gz ?_
  exact fin ⟨g,rfl,rfl⟩ aa
end
theorem IP (a b:Nat)(h:a+b<=22528):Ct 165 [.int .i64 a,.int .i64 b] [] fun u Bs=>u = .bool true/\Bs=[]:=by
 have hs:IntKind.i64.wrap (22528 - (a:Int))=((22528 - a:Nat):Int):=by rw [IntWalk.i64_in _ oZ];omega
 refine st Tryz.func165 fun w0 => ?_
 refine gz ?_
 rw [decide_eq_true oZ]
 exact fin ⟨rfl,rfl⟩ aa
section
variable (T:TypeId)(fr:Nat×Nat)(p:Nat)(qs:List Nat)(t pool:Nat)(tp:Tp)(pr:Bool)(n:Nat)(ls:List (Option Lv))(no:Nat)(V:Chunk)(hV:jd t pool tp pr n ls no V)(ok:dE tp pr n ls.length)(hall:∀x∈ls,x≠none)
include hV ok hall
theorem wi (R0:Rk)(C:Chunk)(hC:br p qs R0 C)(ho:dI qs R0 n ls)(at_:Nat)(b0:List UInt8)(m:Nat)(hm:b0.length=m)(ha:at_+m<=22528)(eV:1<=no/\no+m<=281474976710656)(hw:R0.ws.length+5*m<=900000000000)(O:Chunk)(Is:Option Addr)(co:Nat)(hO:Rd O 1 (.slice Is m co) m (ak b0))(hc0:m<=co) :
  Ct 120 [ptr t,.int .i64 at_,.slice Is m co] [gK T fr,C,V,O] fun u Bs=>∃C' V',u = .int .i64 (if b0≠[]/\(bP ls m R0 no at_ b0).1.off=true then 5 else 0)/\br p qs (bP ls m R0 no at_ b0).1 C'/\jd t pool tp pr n ls (bP ls m R0 no at_ b0).2 V'/\Bs=[gK T fr,C',V',O]:=by
 have j4:=ok.hw
 have hn:=ok.hn
 obtain ⟨dm,M,fU,cT,DT,dP,cI,DI,jS,cL,DL,ov,cl,Dl,vD,DD,L,hT,hI,wU,hl,hM,hL,rfl⟩:=hV
 have hV:∀no,jd t pool tp pr n ls no ([(t,Db pool (.slice fU 1 cT) (.slice dP 1 cI) (.slice jS 1 cL) vD no)]++(DT++(DI++(DL++(Dl++(DD++(M++L))))))):=fun no=>⟨dm,M,fU,cT,DT,dP,cI,DI,jS,cL,DL,ov,cl,Dl,vD,DD,L,hT,hI,wU,hl,hM,hL,rfl⟩
 obtain ⟨res,DZ⟩:∃res,res=bP ls m R0 no at_ b0:=⟨_,rfl⟩
 rw [<-DZ]
 refine st Tryz.func120 fun w0 => ?_
 refine gs ?_
 refine gc (IP at_ m ha) ?_
 rintro _ _ ⟨rfl,rfl⟩
 refine gl [0] (fun ((_,_,at_,_,_,m,ad,c):Rk×Nat×Nat×List UInt8×Chunk×Nat×Option Addr×Nat)=>[(1,.int .i64 at_),(2,.slice ad m c)]) (fun (_,no,_,_,C,_,_,_)=>[C,[(t,Db pool (.slice fU 1 cT) (.slice dP 1 cI) (.slice jS 1 cL) vD no)]]) (fun (R,no,at_,b,C,m,ad,c)=>res=bP ls m R no at_ b/\b.length=m/\at_+m<=22528/\(1<=no/\no+m<=281474976710656)/\R.ws.length+5*m<=900000000000/\br p qs R C/\dI qs R n ls/\Rd O 1 (.slice ad m c) m (ak b)/\m<=c/\(b0=[]->b=[])/\(b=[]->b0≠[]->R.off=false)) (fun (_,_,_,_,_,m,_)=>m) (R0,no,at_,b0,C,m,Is,co) ⟨DZ,hm,ha,eV,hw,hC,ho,hO,hc0,(fun h=>h),(fun h h'=>absurd h h')⟩ ?_
 rintro ⟨R,no,at_,b,C,m,ad,c⟩ ⟨DZ,hm,ha,eV,hw,hC,ho,hO,F7,PC,jt⟩
 refine gi ?_ ?_ <;> intro bh
 ·have Wu:b≠[]:=fun h=>by rw [h] at hm;simp at hm;omega
  have abw:b0≠[]:=fun h=>Wu (PC h)
  obtain ⟨m',rfl⟩:∃m',m=m'+1:=⟨m - 1,by omega⟩
  obtain ⟨gO,oO,rfl⟩:=hO.addr oZ
  have hk:at_ / 88<256:=by omega
  have fM:∀x,some x∈ls->(R.now x.i (18+at_ / 88)).length=128:=fun x hx=>by
   obtain ⟨o1,o2,o3⟩:=ho x hx
   exact (kF hC.ok (i:=x.i) (a:=18+at_ / 88) oZ).2
  have hSl:=T5 fM
  have abx:at_ % 88<88:=by omega
  obtain ⟨S,hS⟩:∃S,S=tD R ls (at_ / 88):=⟨_,rfl⟩
  have u3:=DY T fr p qs t pool tp pr n ls no _ (hV no) ok hall R C hC ho (at_ / 88) hk
  rw [<-hS] at hSl u3
  have qE:(nY S (at_ % 88) b).length=88:=yx hSl abx
  obtain ⟨X,hX⟩:∃X,X=nY S (at_ % 88) b:=⟨_,rfl⟩
  have zI:(ak S).take (at_ % 88)++(ak b).take (min (m'+1) (88 - at_ % 88))++(ak S).drop (at_ % 88+min (m'+1) (88 - at_ % 88))=ak X:=by
   rw [hX,nY,hm,aL,aL,aY,aE,aE]
  rw [<-hX] at qE
  have hSb:(ak S).length=88:=by rw [ai,hSl]
  obtain ⟨RX,hRX⟩:∃RX,RX=R.run (upto (jH ls (at_ / 88) no X) ls.length):=⟨_,rfl⟩
  have uh:res=if RX.off then (RX,no) else bP ls m' RX (no+1) (at_+min (m'+1) (88 - at_ % 88)) (b.drop (min (m'+1) (88 - at_ % 88))):=by
   rw [DZ,bP,if_neg Wu];simp only [<-hS,<-hX,hm,<-hRX]
  have iK:∀k,(jH ls (at_ / 88) no X k).length<=1:=DV ls _ _ _
  have ha:=GH t pool tp pr n ls no _ (hV no) ok hall
  refine gc u3 ?_
  rintro _ _ ⟨g,rfl,rfl⟩
  refine gs ?_
  refine gv ?_
  refine gy ?_
  refine gc ha ?_
  rintro _ _ ⟨Ca,Wq,rfl⟩
  obtain ⟨Wa,ca,rfl⟩:=Wq.slice
  have har:=Wq.rd
  obtain ⟨ga_,oa,rfl⟩:=har.addr oZ
  refine gs ?_
  refine gl [0,1,2,7,8,9,33,34] (fun ((j,z,_):Nat×Nat×Chunk)=>[(35,.int .i64 j),(10,.int .i64 z)]) (fun (_,_,C)=>[C]) (fun (j,z,C)=>j<=ls.length/\z=(if j=0 then 4 else 0)/\br p qs (R.run (upto (jH ls (at_ / 88) no X) j)) C/\(0<j->(R.run (upto (jH ls (at_ / 88) no X) j)).off=false)) (fun (j,_)=>ls.length - j) (0,4,C) ⟨by omega,rfl,hC,(fun h=>by cases h)⟩ ?_
  rintro ⟨j,z,C⟩ ⟨hj,hz,hC,hjo⟩
  refine gi ?_ ?_ <;> intro pD
  ·obtain ⟨oy,hy⟩:=eB (l:=ls) (i:=j) oZ
   rcases oy with _ | y
   ·exact absurd rfl (hall _ (List.mem_of_getElem? hy))
   obtain ⟨o1,o2,o3⟩:=ho.run (upto (jH ls (at_ / 88) no X) j) y (List.mem_of_getElem? hy)
   have bV:(ls.map iv)[j]? = some (ptr y.a):=by rw [List.getElem?_map,hy];rfl
   have Cz:=Rk.iJ R (upto (jH ls (at_ / 88) no X) j)
   have zj:=cR iK j
   have zQ:jH ls (at_ / 88) no X j=fS y.i (18+at_ / 88) [iV no X]:=by unfold jH;rw [hy]
   obtain ⟨A,L1,B,pL,rfl⟩:=hL.at hy
   have hgX:Rd [(g,av (ak X) 5)] 1 (.slice (some ⟨g,0,none⟩) 88 88) 88 (ak X):=aw (by rw [ai,qE]) (aK _) oZ _
   have nF:=Oc T fr p qs _ C hC y.i y.q n y.a _ L1 pL o1 o2 o3 hn (at_ / 88) no X _ _ hk oZ qE hgX oZ
   rw [<-zQ,<-dO] at nF
   refine gs ?_
   refine gc nF ?_
   rintro _ _ ⟨C',rfl,bA,rfl⟩
   cases dN:(R.run (upto (jH ls (at_ / 88) no X) (j+1))).off with
   | true =>
    refine gz ?_
    have e:=jr dN (by omega:j+1<=ls.length)
    rw [<-hRX] at e
    have cu:res=(RX,no):=by rw [uh,if_pos (by rw [e];exact dN)]
    rw [cu,if_pos ⟨abw,by rw [e];exact dN⟩]
    exact fin ⟨C',_,rfl,by rw [e];exact bA,hV no,rfl⟩ aa
   | false =>
    refine gn ?_
    exact ⟨(j+1,0,C'),⟨by omega,by simp,bA,fun _=>dN⟩,by simp only;omega,aq,_,aa⟩
  ·obtain rfl:j=ls.length:=by omega
   rw [if_neg oZ] at hz
   subst hz
   have hjo:=hjo oZ
   have Cz:=Rk.iJ R (upto (jH ls (at_ / 88) no X) ls.length)
   have zj:=cR iK ls.length
   have R3:=ho.run (upto (jH ls (at_ / 88) no X) ls.length)
   rw [<-hRX] at hjo hC Cz R3
   rw [if_neg (by rw [hjo];simp)] at uh
   obtain ⟨cc,hcc⟩:∃cc,cc=min (m'+1) (88 - at_ % 88):=⟨_,rfl⟩
   rw [<-hcc] at uh
   have afO:1<=cc/\cc<=m'+1:=by omega
   have sQ:(b.drop cc).length=m'+1 - cc:=by rw [List.length_drop,hm]
   have nZ:((ak b).drop (cc*1)).take ((m'+1 - cc)*1)=ak (b.drop cc):=by rw [Nat.mul_one,aY,Nat.mul_one,List.take_of_length_le (by rw [ai,sQ];omega)]
   have Wv:b.drop cc=[]->b0≠[]->RX.off=false:=fun _ _=>hjo
   have adY:b0=[]->b.drop cc=[]:=fun h=>absurd h abw
   rw [yy ls m' (m'+1 - cc) _ _ _ _ oZ oZ] at uh
   rw [<-hcc]
   refine gw ?_;intro rf hR5
   refine gn ?_
   exact ⟨(RX,no+1,at_+cc,b.drop cc,C,m'+1 - cc,rf,c - cc),⟨uh,sQ,by omega,by omega,by omega,hC,R3,hR5,by omega,adY,Wv⟩,by simp only;omega,aq,_,aa⟩
 ·obtain rfl:b=[]:=List.eq_nil_of_length_eq_zero oZ
  have RD:res=(R,no):=by rw [DZ];cases m <;> simp [bP]
  have hz:¬(b0≠[]/\res.1.off=true):=fun ⟨h1,h2⟩=>by rw [RD,jt rfl h1] at h2;cases h2
  rw [if_neg hz,RD]
  refine gz ?_
  exact fin ⟨C,_,rfl,hC,hV no,rfl⟩ aa
end
end Go.Proofs.YtcfioaeamfappaaGreatDoor
namespace Go.Sl
theorem D6 {α:Type}{f:Nat->List α}{s:Nat}:∀(n q:Nat) (a:Nat),q<=n->(∀k,(f k).length=s)->(((List.range' a n).flatMap f).drop (q*s))=(List.range' (a+q) (n - q)).flatMap f
 | n,0,a,_,_=>by simp
 | n+1,q+1,a,h,hs=>by
  rw [List.range'_succ,List.flatMap_cons,show (q+1)*s=(f a).length+q*s by rw [hs,Nat.add_mul];omega,<-List.drop_drop,List.drop_left,D6 n q (a+1) oZ hs]
  congr 2 <;> omega
theorem KP {α:Type}{f:Nat->List α}{s n x c:Nat}(hs:∀k,(f k).length=s)(h0:0<s)(hx:x / s<n)(hc:c<=s - x % s):(((List.range n).flatMap f).drop x).take c=((f (x / s)).drop (x % s)).take c:=by
 have e:x=x / s*s+x % s:=by rw [Nat.mul_comm];exact (Nat.div_add_mod x s).symm
 have hm:=Nat.mod_lt x h0
 rw [List.range_eq_range']
 conv=>lhs;rw [e]
 rw [<-List.drop_drop,D6 n (x / s) 0 oZ hs,Nat.zero_add]
 obtain ⟨r,hr⟩:∃r,n - x / s=r+1:=⟨n - x / s - 1,by omega⟩
 rw [hr,List.range'_succ,List.flatMap_cons,List.drop_append_of_le_length (by rw [hs];omega),List.take_append_of_le_length (by rw [List.length_drop,hs];omega)]
def aX (R:Rk)(ls:List (Option Lv)):List UInt8:=(List.range 256).flatMap (tD R ls)
theorem GW {R:Rk}{ls:List (Option Lv)}(h:∀k,(tD R ls k).length=88):(aX R ls).length=22528:=by
 have:∀n a,((List.range' a n).flatMap (tD R ls)).length=n*88:=by
  intro n
  induction n with
  | zero=>intro a;rfl
  | succ n ih=>intro a;rw [List.range'_succ,List.flatMap_cons,List.length_append,h,ih];omega
 rw [aX,List.range_eq_range',this]
end Go.Sl
namespace Go.Proofs.YtcfioaeamfappaaGreatDoor
open Go.Sl
set_option maxRecDepth 10000
set_option maxHeartbeats 4000000
section
variable (T:TypeId)(fr:Nat×Nat)(p:Nat)(qs:List Nat)(t pool:Nat)(tp:Tp)(pr:Bool)(n:Nat)(ls:List (Option Lv))(no:Nat)(V:Chunk)(hV:jd t pool tp pr n ls no V)(ok:dE tp pr n ls.length)(hall:∀x∈ls,x≠none)
include hV ok hall
theorem yz (R:Rk)(C:Chunk)(hC:br p qs R C)(ho:dI qs R n ls)(at_ m:Nat)(ha:at_+m<=22528)(hS:∀k,(tD R ls k).length=88) :
  Ct 124 [ptr t,.int .i64 at_,.int .i64 m] [gK T fr,C,V] fun u Bs=>(R.off=true/\u = .tuple #[.slice none 0 0,.int .i64 5]/\Bs=[gK T fr,C,V]) \/
   (R.off=false/\∃ad c D,u = .tuple #[.slice ad m c,.int .i64 0]/\az D 5 1 (.slice ad m c) m (ak (((aX R ls).drop at_).take m))/\Bs=[D,gK T fr,C,V]):=by
 have hd:=TT p qs t pool tp pr n ls no V hV ok hall R C hC ho
 refine st Tryz.func124 fun w0 => ?_
 refine gc (IP at_ m ha) ?_
 rintro _ _ ⟨rfl,rfl⟩
 refine gc hd ?_
 rintro _ _ ⟨rfl,rfl⟩
 cases jt:R.off with
 | true =>
  refine gz ?_
  exact fin (.inl ⟨rfl,rfl,rfl⟩) aa
 | false =>
  refine acX ?_;intro g0 C0 hB
  refine gl [0,2] (fun ((d,v,_):Nat×Value×Chunk)=>[(1,.int .i64 (at_+d:Nat)),(8,v)]) (fun (_,_,D)=>[D]) (fun (d,v,D)=>d<=m/\az D 5 1 v d (ak (((aX R ls).drop at_).take d))) (fun (d,_)=>m - d) (0,.slice (some ⟨g0,0,none⟩) 0 m,C0) ⟨by omega,by rw [List.take_zero];exact hB⟩ ?_
  rintro ⟨d,v,D⟩ ⟨hdm,hD⟩
  obtain ⟨j2,cv,rfl⟩:=hD.slice
  refine gi ?_ ?_ <;> intro bh
  ·have hk:(at_+d) / 88<256:=by omega
   have abx:(at_+d) % 88<88:=by omega
   have u3:=DY T fr p qs t pool tp pr n ls no V hV ok hall R C hC ho ((at_+d) / 88) hk
   have hSl:=hS ((at_+d) / 88)
   have OB:∀c,c<=88 - (at_+d) % 88->(((aX R ls).drop at_).drop d).take c=((tD R ls ((at_+d) / 88)).drop ((at_+d) % 88)).take c:=fun c hc=>by
    rw [List.drop_drop];exact KP hS oZ hk hc
   generalize tD R ls ((at_+d) / 88)=S at *
   refine gc u3 ?_
   rintro _ _ ⟨g,rfl,rfl⟩
   have hg:Rd [(g,av (ak S) 5)] 1 (.slice (some ⟨g,0,none⟩) 88 88) 88 (ak S):=aw (by rw [ai,hSl]) (aK _) oZ _
   have nZ:((ak S).drop ((at_+d) % 88*1)).take ((88 - (at_+d) % 88)*1)=ak (S.drop ((at_+d) % 88)):=by rw [Nat.mul_one,aY,Nat.mul_one,List.take_of_length_le (by rw [ai,List.length_drop];omega)]
   refine gw ?_;intro fJ zx
   obtain ⟨cc,hcc⟩:∃cc,cc=min (88 - (at_+d) % 88) (m - d):=⟨_,rfl⟩
   refine go ?_
   rw [show min (((88 - (at_+d) % 88:Nat)):Int) ((m - d:Nat):Int)=((cc:Nat):Int) by omega]
   have Yz:((ak (S.drop ((at_+d) % 88))).drop (0*1)).take ((cc - 0)*1)=ak ((S.drop ((at_+d) % 88)).take cc):=by rw [Nat.zero_mul,List.drop_zero,Nat.mul_one,Nat.sub_zero,aL]
   have dx:cc - 0=cc:=rfl
   refine gw ?_;intro pF hR4
   refine gp ?_;intro rf c5 C5 hC5
   have rF:((aX R ls).drop at_).take (d+cc)=((aX R ls).drop at_).take d++(S.drop ((at_+d) % 88)).take cc:=by
    rw [<-OB cc oZ,<-List.take_add]
   have he:at_+d+cc=at_+(d+cc):=by omega
   refine go ?_
   rw [he]
   refine gn ?_
   exact ⟨(d+cc,_,C5),⟨by omega,by rw [rF,aE];exact hC5⟩,by simp only;omega,aq,_,aa⟩
  ·obtain rfl:d=m:=by omega
   refine gz ?_
   exact fin (.inr ⟨rfl,j2,cv,D,rfl,hD,rfl⟩) aa
end
theorem yA (a b:Int)(hb:b<=9223372036854775807)(h:¬(0<=a/\0<=b/\a+b<=22528)):Ct 165 [.int .i64 a,.int .i64 b] [] fun u Bs=>u = .bool false/\Bs=[]:=by
 refine st Tryz.func165 fun w0 => ?_
 refine gg ?_ ?_ <;> intro h1
 ·refine gg ?_ ?_ <;> intro h2
  ·refine gg ?_ ?_ <;> intro h3
   ·have hs:IntKind.i64.wrap (22528 - a)=22528 - a:=by rw [IntWalk.i64_in _ oZ]
    refine gz ?_
    rw [decide_eq_false oZ]
    exact fin ⟨rfl,rfl⟩ aa
   ·refine gz ?_
    exact fin ⟨rfl,rfl⟩ aa
  ·refine gz ?_
   exact fin ⟨rfl,rfl⟩ aa
 ·refine gz ?_
  exact fin ⟨rfl,rfl⟩ aa
theorem Ea (s tk:Nat)(vA:Value)(ra rd txg note:Nat)(e:Int)(h:e≠5):Ct 119 [ptr s,.int .i64 e] [[(s,bS tk vA ra rd txg note)]] fun u Bs=>u = .int .i64 e/\Bs=[[(s,bS tk vA ra rd txg note)]]:=by
 refine st Tryz.func119 fun w0 => ?_
 refine gz ?_
 exact fin ⟨rfl,rfl⟩ aa
section
variable (s t:Nat)(vA:Value)(ra rd txg note:Nat)
theorem KQ (a:Int)(ad:Option Addr)(m c:Nat)(hm:m<=4611686018427387904)(h:¬(0<=a/\a+m<=22528)):Ct 120 [ptr t,.int .i64 a,.slice ad m c] [] fun u Bs=>u = .int .i64 1/\Bs=[]:=by
 refine st Tryz.func120 fun w0 => ?_
 refine gc (yA a m oZ oZ) ?_
 rintro _ _ ⟨rfl,rfl⟩
 refine gz ?_
 exact fin ⟨rfl,rfl⟩ aa
theorem KR (a m:Int)(hm:m<=9223372036854775807)(h:¬(0<=a/\0<=m/\a+m<=22528)):Ct 124 [ptr t,.int .i64 a,.int .i64 m] [] fun u Bs=>u = .tuple #[.slice none 0 0,.int .i64 1]/\Bs=[]:=by
 refine st Tryz.func124 fun w0 => ?_
 refine gc (yA a m hm h) ?_
 rintro _ _ ⟨rfl,rfl⟩
 refine gz ?_
 exact fin ⟨rfl,rfl⟩ aa
theorem KS (a:Int)(ad:Option Addr)(m c:Nat)(hm:m<=4611686018427387904)(h:¬(0<=a/\a+m<=22528)):Ct 56 [ptr s,.int .i64 a,.slice ad m c] [[(s,bS t vA ra rd txg note)]] fun u Bs=>u = .int .i64 1/\Bs=[[(s,bS t vA ra rd txg note)]]:=by
 refine st Tryz.func56 fun w0 => ?_
 refine gc (KQ t a ad m c hm h) ?_
 rintro _ _ ⟨rfl,rfl⟩
 refine gc (Ea s t vA ra rd txg note 1 oZ) ?_
 rintro _ _ ⟨rfl,rfl⟩
 refine gz ?_
 exact fin ⟨rfl,rfl⟩ aa
theorem KT (a m:Int)(hm:m<=9223372036854775807)(h:¬(0<=a/\0<=m/\a+m<=22528)):Ct 65 [ptr s,.int .i64 a,.int .i64 m] [[(s,bS t vA ra rd txg note)]] fun u Bs=>u = .tuple #[.slice none 0 0,.int .i64 1]/\Bs=[[(s,bS t vA ra rd txg note)]]:=by
 refine st Tryz.func65 fun w0 => ?_
 refine gc (KR t a m hm h) ?_
 rintro _ _ ⟨rfl,rfl⟩
 refine gc (Ea s t vA ra rd txg note 1 oZ) ?_
 rintro _ _ ⟨rfl,rfl⟩
 refine gz ?_
 exact fin ⟨rfl,rfl⟩ aa
variable (T:TypeId)(fr:Nat×Nat)(p:Nat)(qs:List Nat)(pool:Nat)(tp:Tp)(pr:Bool)(n:Nat)(ls:List (Option Lv))(no:Nat)(V:Chunk)(hV:jd t pool tp pr n ls no V)(ok:dE tp pr n ls.length)(hall:∀x∈ls,x≠none)(R:Rk)(C:Chunk)(hC:br p qs R C)(ho:dI qs R n ls)
include hV ok hall hC ho
theorem T6 (a:Nat)(b:List UInt8)(m:Nat)(hm:b.length=m)(ha:a+m<=22528)(eV:1<=no/\no+m<=281474976710656)(hw:R.ws.length+5*m<=900000000000)(O:Chunk)(ad:Option Addr)(c:Nat)(hO:Rd O 1 (.slice ad m c) m (ak b))(hc:m<=c)(jt:(bP ls m R no a b).1.off=false) :
  Ct 56 [ptr s,.int .i64 a,.slice ad m c] [[(s,bS t vA ra rd txg note)],gK T fr,C,V,O] fun u Bs=>u = .int .i64 0/\∃C' V',br p qs (bP ls m R no a b).1 C'/\jd t pool tp pr n ls (bP ls m R no a b).2 V'/\Bs=[[(s,bS t vA ra rd txg note)],gK T fr,C',V',O]:=by
 have h:=wi T fr p qs t pool tp pr n ls no V hV ok hall R C hC ho a b m hm ha eV hw O ad c hO hc
 rw [if_neg (fun h=>by rw [jt] at h;exact absurd h.2 dZ)] at h
 refine st Tryz.func56 fun w0 => ?_
 refine gc h ?_
 rintro _ _ ⟨C',V',rfl,bA,RG,rfl⟩
 refine gc (Ea s t vA ra rd txg note 0 oZ) ?_
 rintro _ _ ⟨rfl,rfl⟩
 refine gz ?_
 exact fin ⟨rfl,C',V',bA,RG,rfl⟩ aa
theorem T7 (jt:(R.run (iF ls)).off=false):Ct 59 [ptr s] [[(s,bS t vA ra rd txg note)],C,V] fun u Bs=>u = .int .i64 0/\∃C',br p qs (R.run (iF ls)) C'/\Bs=[[(s,bS t vA ra rd txg note)],C',V]:=by
 have h:=pQ (p:=p) (qs:=qs) (t:=t) (hV:=hV) (ok:=ok) (R:=R) (C:=C) (hC:=hC) (ho:=ho) (hall:=hall)
 rw [jt] at h
 refine st Tryz.func59 fun w0 => ?_
 refine gc h ?_
 rintro _ _ ⟨C',rfl,bA,rfl⟩
 refine gc (Ea s t vA ra rd txg note 0 oZ) ?_
 rintro _ _ ⟨rfl,rfl⟩
 refine gz ?_
 exact fin ⟨rfl,C',bA,rfl⟩ aa
theorem T8 (bW:R.off=false)(a m:Nat)(ha:a+m<=22528)(hS:∀k,(tD R ls k).length=88):Ct 65 [ptr s,.int .i64 a,.int .i64 m] [[(s,bS t vA ra rd txg note)],gK T fr,C,V] fun u Bs=>∃ad c D,u = .tuple #[.slice ad m c,.int .i64 0]/\az D 5 1 (.slice ad m c) m (ak (((aX R ls).drop a).take m))/\Bs=[D,[(s,bS t vA ra rd txg note)],gK T fr,C,V]:=by
 have h:=yz T fr p qs t pool tp pr n ls no V hV ok hall R C hC ho a m ha hS
 refine st Tryz.func65 fun w0 => ?_
 refine gc h ?_
 rintro _ _ (⟨hx, -⟩ | ⟨-,ad,c,D,rfl,hD,rfl⟩)
 ·rw [bW] at hx;cases hx
 refine gc (Ea s t vA ra rd txg note 0 oZ) ?_
 rintro _ _ ⟨rfl,rfl⟩
 refine gz ?_
 exact fin ⟨ad,c,D,rfl,hD,rfl⟩ aa
end
end Go.Proofs.YtcfioaeamfappaaGreatDoor
namespace Go.Sl
theorem p5 {pr:Bool}{w b:Nat}(hw:1<=w/\w<=5)(hp:pr=true->3<=w)(hb:b<=1024):aN pr w b<=aN pr w 1024:=by
 have h:w=1\/w=2\/w=3\/w=4\/w=5:=by omega
 cases pr
 ·simp only [aN,Bool.false_eq_true,if_false,aD];omega
 ·have:=hp rfl
  rcases h with rfl | rfl | rfl | rfl | rfl
  ·omega
  ·omega
  ·simp only [aN,if_true,dG,aD];omega
  ·simp only [aN,if_true,dG,aD];omega
  ·simp only [aN,if_true,dG,aD];omega
end Go.Sl
namespace Go.Proofs.YtcfioaeamfappaaGreatDoor
open Go.Sl
set_option maxRecDepth 10000
set_option maxHeartbeats 4000000
structure OQM (Ms:List Chunk)(o:aA):Prop
section
variable {X:Cx}{f:Fx}{k:Kt}{e:Env}{Ls:List Chunk}{ops:List Oper}
theorem WS.T9 {Ms:List Chunk}{o:aA}(_:OQM Ms o){id:Nat}(hm:X.P.follows .mixedOrders=true)(hB:(ops.all bY&&kX ops.toArray o)=true)(hM:∀C∈Ms,C∈Ls)(h:WO X f ops k Ms o e Ls):WS X f (.region id ops.toArray true) k e Ls:=by
 rw [Bool.and_eq_true] at hB
 exact .drawn hm o hB.1 hB.2 Ms hM h
end
theorem Y7 {G H:Prop}(Ms:List Chunk)(o:aA)(k:H)(h:OQM Ms o->gE H->G:=by
 intro oo kk;refine go ?_;refine WS.T9 oo ?_ ?_ ?_ ?_;exact rfl;kernel_rfl;(repeat (first | exact Nd | (apply Nf;exact mem)));exact kk.out):G:=h ⟨⟩ ⟨k⟩
def rG (g s gt:Nat)(m:Int)(ks:List Nat)(G:Chunk):Prop:=∃ad c D,az D 152 3 (.slice ad ks.length c) ks.length ((Ku m ks).flatMap Pl.lay)/\G=[(g,av [ptr s,.int .u64 gt,.slice ad ks.length c] 252)]++D
section
variable (T:TypeId)(fr:Nat×Nat)(p:Nat)(qs:List Nat)(t pool:Nat)(tp:Tp)(pr:Bool)(n:Nat)(ls:List (Option Lv))(no:Nat)(V:Chunk)(hV:jd t pool tp pr n ls no V)(ok:dE tp pr n ls.length)(dx:n<=2048)(R:Rk)(C:Chunk)(hC:br p qs R C)(ho:dI qs R n ls)(hall:∀x∈ls,x≠none)(bW:R.on)
variable (s al:Nat)(ra rd txg note:Nat)(g gt:Nat)(ib:1<=gt/\gt<=281474976710656)(ks:List Nat)(lV:ks.length<=100000)(G:Chunk)(hG:rG g s gt ((aN pr ls.length 1024:Nat):Int) ks G)
theorem Ua (G X1 X2 X3 X4 X5:Chunk)(b:List UInt8)(L:Nat)(hL:b.length=L)(hb:bp b=true)(O:Chunk)(v:Value)(hO:Rd O 1 v L (ak b)):Ct 217 [ptr g,v] [G,X1,X2,X3,X4,X5,O] fun u Bs=>u = .tuple #[ah.agg,.int .i64 0]/\Bs=[G,X1,X2,X3,X4,X5,O]:=by
 have h:=zH v O b L hL hO
 rw [hb] at h
 refine st Tryz.func217 fun w0 => ?_
 refine ga ?_;intro b4
 refine gc h ?_
 rintro _ _ ⟨rfl,rfl⟩
 refine gz ?_
 exact fin ⟨rfl,rfl⟩ aa
include hV ok dx hC ho hall bW ib lV hG
theorem Y8 (x:Rm)(Al:Chunk)(hA:oN al ((bD pr ls.length n:Nat):Int) ((aN pr ls.length 1024:Nat):Int) x Al)(hr:∃k:Nat,k∉x.D/\(k+1:Int)*((aN pr ls.length 1024:Nat):Int)<=((bD pr ls.length n:Nat):Int))(b:List UInt8)(L:Nat)(hL:b.length=L)(KK:1<=L/\L<=1024)(hb:bp b=false)(O:Chunk)(v:Value)(hO:Rd O 1 v L (ak b))(hw:R.ws.length+40<=900000000000) :
  Ct 217 [ptr g,v] [G,[(s,bS t (ptr al) ra rd txg note)],gK T fr,C,V,Al,O] fun u Bs=>∃k:Nat,k∉x.D/\(k+1:Int)*((aN pr ls.length 1024:Nat):Int)<=((bD pr ls.length n:Nat):Int)/\u = .tuple #[(Gm (k*aN pr ls.length 1024) gt b 2).agg,.int .i64 0] /\
   ∃G' C' jI,rG g s gt ((aN pr ls.length 1024:Nat):Int) (ks++[k]) G'/\br p qs (R.run (sS pr ls (k*aN pr ls.length 1024) b)) C'/\oN al ((bD pr ls.length n:Nat):Int) ((aN pr ls.length 1024:Nat):Int) (x.take k) jI/\Bs=[G',[(s,bS t (ptr al) ra rd txg note)],gK T fr,C',V,jI,O]:=by
 have cV:=zH v O b L hL hO
 rw [hb] at cV
 have ek:=Y3 s t pool tp pr n ls no V hV ok dx (ptr al) ra rd txg note
 have Y9:=sv pr ok.hw ok.hp
 have TG:=iA pr ok.hw ⟨ok.hn.1,dx⟩
 have KV:=p5 (pr:=pr) (w:=ls.length) (b:=L) ok.hw ok.hp KK.2
 have nF:=fun k hk=>OA T fr p qs t pool tp pr n ls no V hV ok R C hC ho hall (k*aN pr ls.length 1024) gt b L hL KK 2 (.inr rfl) hk ib O v hO hw
 have jt:∀k,(R.run (sS pr ls (k*aN pr ls.length 1024) b)).off=false:=fun k=>(bW.run _).2
 have CZ:=TR al ((bD pr ls.length n:Nat):Int) ((aN pr ls.length 1024:Nat):Int) oZ oZ x Al hA hr
 obtain ⟨adG,cG,DG,hDG,rfl⟩:=hG
 refine st Tryz.func217 fun w0 => ?_
 refine gs ?_
 refine ga ?_;intro b4
 refine gc cV ?_
 rintro _ _ ⟨rfl,rfl⟩
 refine Y7 [[(g,av [ptr s,.int .u64 gt,.slice adG ks.length cG] 252)],[(s,bS t (ptr al) ra rd txg note)]] (aA.cons (0,0) (aA.cons (1,0) (aA.cons (2,0) (aA.cons (3,0) (aA.cons (4,0) (aA.cons (5,0) (aA.cons (6,0) (aA.cons (7,0) (aA.cons (8,0) (aA.cons (9,0) (aA.cons (10,0) (aA.fork 11 (aA.fork 12 (aA.yP [(13,0),(14,0),(15,2),(16,1),(17,3),(18,2)]) 16 (aA.yP [(12,1),(13,0),(14,0),(15,2),(17,3),(18,2)])) 16 (aA.yP [(11,1),(12,1),(13,0),(14,0),(15,2),(17,3),(18,2)]))))))))))))) ?_
 refine gk ?_ ?_
 case' refine_2 =>
  refine ga ?_;intro b6
  refine gc ek ?_
  rintro _ _ ⟨adN,cN,DN,rfl,hDN,rfl⟩
  refine gc (CZ DN adN cN hDN.rd) ?_
  rintro _ _ ⟨k,hk,jz,rfl,jI,Za,rfl⟩
 case' refine_1 =>
  refine gc ek ?_
  rintro _ _ ⟨adN,cN,DN,rfl,hDN,rfl⟩
  refine gk ?_ ?_
 case' refine_1.refine_2 =>
  refine ga ?_;intro b6
  refine gc (CZ DN adN cN hDN.rd) ?_
  rintro _ _ ⟨k,hk,jz,rfl,jI,Za,rfl⟩
 case' refine_1.refine_1 =>
  refine gc (CZ DN adN cN hDN.rd) ?_
  rintro _ _ ⟨k,hk,jz,rfl,jI,Za,rfl⟩
  refine ga ?_;intro b6
 all_goals
  have hmul:((k:Int)*((aN pr ls.length 1024:Nat):Int))=((k*aN pr ls.length 1024:Nat):Int):=by rw [Int.natCast_mul]
  have adZ:k*aN pr ls.length 1024+aN pr ls.length L<=bD pr ls.length n:=by
   have h1:((k*aN pr ls.length 1024:Nat):Int)+((aN pr ls.length 1024:Nat):Int)<=((bD pr ls.length n:Nat):Int):=by rw [<-hmul];rw [Int.add_mul,Int.one_mul] at jz;exact jz
   omega
  have nF:=nF k adZ
  rw [jt k] at nF
  refine qC [[(g,av [ptr s,.int .u64 gt,.slice adG ks.length cG] 252)],[(b6,av [.int .i64 0,.int .i64 ((k:Int)*((aN pr ls.length 1024:Nat):Int)),.int .i64 ((aN pr ls.length 1024:Nat):Int)] 152)]] [0,4,8,12,16,20,25,29,32,36,43] ?_
  refine gm ?_;intro b37
  refine gp ?_;intro adH cH DH hDH
  refine qC [[(s,bS t (ptr al) ra rd txg note)],[(g,av [ptr s,.int .u64 gt,.slice adH (ks.length+1) cH] 252)],[(b6,av [.int .i64 0,.int .i64 ((k:Int)*((aN pr ls.length 1024:Nat):Int)),.int .i64 ((aN pr ls.length 1024:Nat):Int)] 152)]] [0,4,8,12,16,20,24,28,32,36,40,44,48,52,56,60,64,69,72,76,83,86] ?_
  refine go ?_
  rw [hmul]
  refine gc nF ?_
  rintro _ _ ⟨C',rfl,bA,rfl⟩
  refine gz ?_
  exact fin ⟨k,hk,jz,rfl,_,C',jI,⟨adH,cH,DH,by simpa [Ku,Pl.lay,kK] using hDH,rfl⟩,bA,Za,rfl⟩ (by simp only [List.length_append,List.length_cons,List.length_nil];exact aa)
end
end Go.Proofs.YtcfioaeamfappaaGreatDoor
namespace Go.Sl
def iD (l:List au)(k:Int):Int×Int:=if 1<=k/\k<=112 then (match ey l k with
 | some o=>((o.b.length:Int),0)
 | none=>(0,130)) else (0,1)
theorem rH {l:List au}{k:Int}(h:¬(1<=k/\k<=112)):iD l k=(0,1):=if_neg h
theorem p6 {l:List au}{k:Int}(h:1<=k/\k<=112)(h2:ey l k=none):iD l k=(0,130):=by unfold iD;rw [if_pos h,h2]
theorem rI {l:List au}{k:Int}{o:au}(h:1<=k/\k<=112)(h2:ey l k=some o):iD l k=((o.b.length:Int),0):=by unfold iD;rw [if_pos h,h2]
def mL (o:au)(g i:Nat):Bool:=o.gC i||decide (g<o.born i)
def aV (o:au)(g:Nat):List Bool:=(List.range 64).map (mL o g)
theorem GX (o:au)(g:Nat):(aV o g).length=64:=by simp [aV]
theorem KW {o:au}{g i:Nat}(h:i<64):(aV o g)[i]? = some (mL o g i):=by simp [aV,h]
end Go.Sl
namespace Go.Proofs.YtcfioaeamfappaaGreatDoor
open Go.Sl
set_option maxRecDepth 10000
set_option maxHeartbeats 4000000
section
variable (a:Nat)(l:List au)(aQ:mJ l)(txg note room:Nat)(vG vS:Value)(ad:Option Addr)(c:Nat)(D O:Chunk)(hD:Rd D 130 (.slice ad l.length c) l.length (l.flatMap au.lay))(hO:DE O l)
theorem KX (k x y:Int)(h:¬(1<=k/\k<=112)\/x<0\/y<0):Ct 60 [ptr a,.int .i64 k,.int .i64 x,.int .i64 y] [] fun u Bs=>u = .tuple #[.slice none 0 0,.int .i64 1]/\Bs=[]:=by
 have hn:=cA k
 refine st Tryz.func60 fun w0 => ?_
 refine gc hn ?_
 rintro _ _ ⟨rfl,rfl⟩
 by_cases hk:1<=k/\k<=112
 ·rw [decide_eq_true hk]
  have h:=h.resolve_left (fun c=>c hk)
  by_cases hx:x<0
  ·refine gz ?_
   exact fin ⟨rfl,rfl⟩ aa
  ·have hy:=h.resolve_left hx
   refine gz ?_
   exact fin ⟨rfl,rfl⟩ aa
 ·rw [decide_eq_false hk]
  refine gz ?_
  exact fin ⟨rfl,rfl⟩ aa
include aQ hD
theorem PF (k:Int)(hk:1<=k/\k<=112)(x y:Nat)(h:ey l k=none):Ct 60 [ptr a,.int .i64 k,.int .i64 x,.int .i64 y] [[(a,eK (.slice ad l.length c) txg note room vG vS)],D] fun u Bs=>u = .tuple #[.slice none 0 0,.int .i64 130]/\Bs=[[(a,eK (.slice ad l.length c) txg note room vG vS)],D]:=by
 have hn:=cA k
 rw [decide_eq_true hk] at hn
 refine st Tryz.func60 fun w0 => ?_
 refine gc hn ?_
 rintro _ _ ⟨rfl,rfl⟩
 refine gc (nW a l aQ txg note room vG vS ad c D hD k) ?_
 rintro _ _ ⟨⟨rfl, -⟩ | ⟨i,o, -, -,hn⟩,rfl⟩
 ·refine gz ?_
  exact fin ⟨rfl,rfl⟩ aa
 ·rw [h] at hn;cases hn
include hO
theorem An (k:Int):Ct 61 [ptr a,.int .i64 k] [[(a,eK (.slice ad l.length c) txg note room vG vS)],D] fun u Bs=>u = .tuple #[.int .i64 (iD l k).1,.int .i64 (iD l k).2]/\Bs=[[(a,eK (.slice ad l.length c) txg note room vG vS)],D]:=by
 have hn:=cA k
 by_cases hk:1<=k/\k<=112
 ·rw [decide_eq_true hk] at hn
  refine st Tryz.func61 fun w0 => ?_
  refine gc hn ?_
  rintro _ _ ⟨rfl,rfl⟩
  refine gc (nW a l aQ txg note room vG vS ad c D hD k) ?_
  rintro _ _ ⟨⟨rfl,hn⟩ | ⟨i,o,rfl,hi,hn⟩,rfl⟩
  ·rw [p6 hk hn]
   refine gz ?_
   exact fin ⟨rfl,rfl⟩ aa
  ·rw [rI hk hn]
   have bo:=(List.getElem?_eq_some_iff.1 hi).1
   have qG:=List.mem_of_getElem? hi
   have nJ:=aQ.jE
   obtain ⟨g,off,rfl⟩:=hD.addr oZ
   have hs:=ar au.aj l i o hi
   obtain ⟨⟨j2,cv,hv, -⟩, -⟩:=hO o qG
   have xg:=hs 1 _ (show o.lay[1]? = some (.slice j2 o.b.length cv) by rw [<-hv];exact au.rD _)
   refine gz ?_
   exact fin ⟨rfl,rfl⟩ aa
 ·rw [decide_eq_false hk] at hn
  rw [rH hk]
  refine st Tryz.func61 fun w0 => ?_
  refine gc hn ?_
  rintro _ _ ⟨rfl,rfl⟩
  refine gz ?_
  exact fin ⟨rfl,rfl⟩ aa
theorem PG (k:Int)(hk:1<=k/\k<=112)(x y:Nat)(hxy:x<9223372036854775808/\y<9223372036854775808)(o:au)(h:ey l k=some o):Ct 60 [ptr a,.int .i64 k,.int .i64 x,.int .i64 y] [[(a,eK (.slice ad l.length c) txg note room vG vS)],D,O] fun u Bs=>∃ba c',u = .tuple #[.slice ba (dB o.b.length x y) c',.int .i64 0]/\Rd O 1 (.slice ba (dB o.b.length x y) c') (dB o.b.length x y) (ak ((o.b.drop x).take y))/\Bs=[[(a,eK (.slice ad l.length c) txg note room vG vS)],D,O]:=by
 have hn:=cA k
 rw [decide_eq_true hk] at hn
 refine st Tryz.func60 fun w0 => ?_
 refine gc hn ?_
 rintro _ _ ⟨rfl,rfl⟩
 refine gc (nW a l aQ txg note room vG vS ad c D hD k) ?_
 rintro _ _ ⟨⟨rfl,hn⟩ | ⟨i,o',rfl,hi,hn⟩,rfl⟩
 ·rw [h] at hn;cases hn
 ·obtain rfl:o=o':=by rw [h] at hn;exact Option.some.inj hn
  have bo:=(List.getElem?_eq_some_iff.1 hi).1
  have qG:=List.mem_of_getElem? hi
  have nJ:=aQ.jE
  have AY:=aQ.sm o qG
  obtain ⟨g,off,rfl⟩:=hD.addr oZ
  have hs:=ar au.aj l i o hi
  obtain ⟨⟨j2,cv,hv,RA⟩,hR⟩:=hO o qG
  have xg:=hs 1 _ (show o.lay[1]? = some (.slice j2 o.b.length cv) by rw [<-hv];exact au.rD _)
  rw [hv] at hR
  clear hv
  by_cases hx:o.b.length<=x
  ·have e:dB o.b.length x y=0:=by unfold dB;omega
   have e2:(o.b.drop x).take y=[]:=by rw [List.drop_eq_nil_of_le hx];simp
   rw [e,e2]
   refine gz ?_
   exact fin ⟨none,0,rfl,Rd.nil _ _,rfl⟩ aa
  ·have nZ:((ak o.b).drop (x*1)).take ((o.b.length - x)*1)=ak (o.b.drop x):=by rw [Nat.mul_one,Nat.mul_one,aY,List.take_of_length_le (by rw [ai,List.length_drop];omega)]
   have LV:o.b.length - x=o.b.length - x:=rfl
   refine gw ?_;intro ad2 kr
   by_cases hy:y<o.b.length - x
   ·have e:dB o.b.length x y=y:=by unfold dB;omega
    rw [e]
    have Yz:((ak (o.b.drop x)).drop (0*1)).take ((y - 0)*1)=ak ((o.b.drop x).take y):=by rw [Nat.zero_mul,List.drop_zero,Nat.sub_zero,Nat.mul_one,aL]
    have dx:y - 0=y:=rfl
    clear hR
    refine gw ?_;intro fJ zx
    refine gz ?_
    exact fin ⟨fJ,_,rfl,zx,rfl⟩ aa
   ·have e:dB o.b.length x y=o.b.length - x:=by unfold dB;omega
    rw [e,List.take_of_length_le (by rw [List.length_drop];omega)]
    refine gz ?_
    exact fin ⟨ad2,_,rfl,kr,rfl⟩ aa
theorem KY (k:Int)(g:Nat)(h:(iD l k).2≠0):Ct 63 [ptr a,.int .i64 k,.int .u64 g] [[(a,eK (.slice ad l.length c) txg note room vG vS)],D] fun u Bs=>u = .tuple #[.slice none 0 0,.int .i64 (iD l k).2]/\Bs=[[(a,eK (.slice ad l.length c) txg note room vG vS)],D]:=by
 have hs:=An a l aQ txg note room vG vS ad c D O hD hO k
 generalize iD l k=z at *
 obtain ⟨z1,z2⟩:=z
 simp only at h hs ⊢
 refine st Tryz.func63 fun w0 => ?_
 refine gc hs ?_
 rintro _ _ ⟨rfl,rfl⟩
 refine gz ?_
 exact fin ⟨rfl,rfl⟩ aa
theorem PH (k:Int)(hk:1<=k/\k<=112)(g:Nat)(o:au)(h:ey l k=some o):Ct 63 [ptr a,.int .i64 k,.int .u64 g] [[(a,eK (.slice ad l.length c) txg note room vG vS)],D] fun u Bs=>∃ba c' E,u = .tuple #[.slice ba (l7 o.b.length 0 (aV o g) []).length c',.int .i64 0]/\az E 150 2 (.slice ba (l7 o.b.length 0 (aV o g) []).length c') (l7 o.b.length 0 (aV o g) []).length ((l7 o.b.length 0 (aV o g) []).flatMap Sp.lay)/\Bs=[E,[(a,eK (.slice ad l.length c) txg note room vG vS)],D]:=by
 have bx:=An a l aQ txg note room vG vS ad c D O hD hO k
 rw [rI hk h] at bx
 have gh:=nW a l aQ txg note room vG vS ad c D hD k
 have cV:=GX o g
 refine st Tryz.func63 fun w0 => ?_
 refine gc bx ?_
 rintro _ _ ⟨rfl,rfl⟩
 have qG:=(fg h).1
 have nJ:=aQ.jE
 have Jm:=List.length_pos_of_mem qG
 have Gy:=o.aj
 have fE:=o.bC (by obtain ⟨⟨j2,cv,hv, -⟩, -⟩:=hO o qG;rw [hv];rfl)
 obtain ⟨gD,off,rfl⟩:=hD.addr oZ
 refine Y7 [[(a,eK (.slice (some ⟨gD,off,none⟩) l.length c) txg note room vG vS)],D] (aA.cons (0,0) (aA.cons (1,0) (aA.cons (2,0) (aA.cons (3,0) (aA.cons (4,0) (aA.cons (5,0) (aA.fork 6 (aA.yP [(7,0),(8,0),(9,1),(10,3)]) 9 (aA.yP [(6,1),(7,0),(8,0),(10,3)])))))))) ?_
 refine gk ?_ ?_
 case' refine_1 =>
  refine gc gh ?_
  rintro _ _ ⟨⟨rfl,hn⟩ | ⟨i,o',rfl,hi,hn⟩,rfl⟩
  case' inl=>exact absurd h (by rw [hn];simp)
  obtain rfl:o=o':=by rw [h] at hn;exact Option.some.inj hn
  have bo:=(List.getElem?_eq_some_iff.1 hi).1
  have hs:=ar au.aj l i o hi
  refine ga ?_;intro wV
 case' refine_2 =>
  refine ga ?_;intro wV
  refine gc gh ?_
  rintro _ _ ⟨⟨rfl,hn⟩ | ⟨i,o',rfl,hi,hn⟩,rfl⟩
  case' inl=>exact absurd h (by rw [hn];simp)
  obtain rfl:o=o':=by rw [h] at hn;exact Option.some.inj hn
  have bo:=(List.getElem?_eq_some_iff.1 hi).1
  have hs:=ar au.aj l i o hi
 all_goals
  refine gm ?_;intro g11 C11 aby
  have hC:C11=[(g11,av (aO (bu (aV o g) 0)) 85)]:=by
   rcases aby.2.2 with ⟨h,_⟩ | ⟨g',c',r',hv,rfl,_,_,hlen⟩
   ·cases h
   ·cases hv
    have h3:=aby.1
    obtain rfl:r'=[]:=List.eq_nil_of_length_eq_zero oZ
    rw [List.append_nil]
    have:(List.replicate 64 ah.lay).flatten=aO (bu (aV o g) 0):=by
     rw [pP 64 ah Pt.lay];rfl
    rw [<-this];rfl
  subst hC
  refine gl [2,10,11] (fun (i:Nat)=>[(12,.int .i64 i)]) (fun i=>[[(g11,av (aO (bu (aV o g) i)) 85)]]) (fun i=>i<=64) (fun i=>64 - i) 0 oZ ?_
  rintro j hj
  refine gi ?_ ?_ <;> intro bh
  ·have oV:j<64:=by omega
   have GP:(aV o g)[j]? = some (mL o g j):=KW oV
   have xm:=ny cV hj
   have abz:=o.II oV
   have afP:=o.Ph oV
   have nz:∀b:Bool,mL o g j=b->(match b with | true=>(aO (bu (aV o g) j)).set (j*9+3) (.int .u64 1) | false=>aO (bu (aV o g) j))=aO (bu (aV o g) (j+1)):=fun b hb=>by
    rw [hb] at GP
    cases b
    ·rw [DM cV oV GP]
    ·exact yu cV oV GP
   cases PI:o.gC j with
   | true =>
    rw [PI] at abz
    have nz:(aO (bu (aV o g) j)).set (j*9+3) (.int .u64 1)=aO (bu (aV o g) (j+1)):=nz true (by unfold mL;rw [PI];rfl)
    refine gn ?_
    rw [nz]
    exact ⟨j+1,by omega,by omega,aq,_,aa⟩
   | false =>
    rw [PI] at abz
    refine gi ?_ ?_ <;> intro hbt
    ·have nz:(aO (bu (aV o g) j)).set (j*9+3) (.int .u64 1)=aO (bu (aV o g) (j+1)):=nz true (by unfold mL;rw [PI];exact decide_eq_true oZ)
     refine gn ?_
     rw [nz]
     exact ⟨j+1,by omega,by omega,aq,_,aa⟩
    ·have nz:aO (bu (aV o g) j)=aO (bu (aV o g) (j+1)):=nz false (by unfold mL;rw [PI];exact decide_eq_false oZ)
     refine gn ?_
     rw [nz]
     exact ⟨j+1,by omega,by omega,aq,_,aa⟩
  ·obtain rfl:j=64:=by omega
   have jo:bu (aV o g) 64=(aV o g).map qP:=by unfold bu;rw [List.take_of_length_le oZ];simp
   rw [jo]
   have hR:Rd [(g11,av (aO ((aV o g).map qP)) 85)] 9 (.slice (some ⟨g11,0,none⟩) 64 64) 64 (aO ((aV o g).map qP)):=by
    have h9:=ny cV (Nat.le_refl 64)
    rw [jo] at h9
    exact aw oZ (fun u hu=>by obtain ⟨x, -,hx⟩:=List.mem_flatMap.1 hu;exact Pt.bC x u hx) oZ _
   have AY:=aQ.sm o qG
   obtain ⟨⟨j2,cv,hv, -⟩, -⟩:=hO o qG
   have Xn:o.lay[1]? = some (.slice j2 o.b.length cv):=by rw [<-hv];exact au.rD _
   refine gc (Kj _ _ 64 o.b.length (aV o g) cV AY hR) ?_
   rintro _ _ ⟨ba,c',E,rfl,hE,rfl⟩
   refine gz ?_
   exact fin ⟨ba,c',E,rfl,hE,rfl⟩ aa
end
section
variable (T:TypeId)(fr:Nat×Nat)(p:Nat)(qs:List Nat)(t pool:Nat)(tp:Tp)(pr:Bool)(n:Nat)(ls:List (Option Lv))(no:Nat)(V:Chunk)(hV:jd t pool tp pr n ls no V)(ok:dE tp pr n ls.length)(R:Rk)(C:Chunk)(hC:br p qs R C)(ho:dI qs R n ls)(hall:∀x∈ls,x≠none)(bW:R.off=false)
variable (s:Nat)(vA:Value)(ra rd txg note:Nat)(LA:List (Int×Value))(CA:Chunk)(hA:Mp ra .i64 LA CA)(all:List (Int×Ob))(VA:Chunk)(hG:eT w9 LA all VA)
variable (a:Nat)(l:List au)(aQ:mJ l)(room:Nat)(vG vS:Value)(ad:Option Addr)(c:Nat)(D O:Chunk)(hD:Rd D 130 (.slice ad l.length c) l.length (l.flatMap au.lay))(hO:DE O l)
include hV ok hC ho hall bW hA hG aQ hD hO
theorem Zb (iK:LA.length=l.length)(rZ:∀ks,ks.Perm (LA.map (·.1))->ks.Pairwise (· <= ·)->ks=l.map fun o=>(o.no:Int))(du:Pt->List UInt8)
  (KZ:∀o∈l,1<=o.no/\∃ob,aH all o.no=some ob/\ob.size=o.b.length/\ob.l8 du 0 ob.size=o.b/\(∀x∈ob.ay,x≠ah->KC R ls pr n x (du x))/\∀e∈ob.fresh,e.2.length<=1024) :
  Ct 10 [ptr s,ptr a] [[(s,bS t vA ra rd txg note)],gK T fr,C,V,CA,VA,[(a,eK (.slice ad l.length c) txg note room vG vS)],D,O] fun u Bs=>u = .bool true/\Bs=[[(s,bS t vA ra rd txg note)],gK T fr,C,V,CA,VA,[(a,eK (.slice ad l.length c) txg note room vG vS)],D,O]:=by
 have nJ:=aQ.jE
 refine st Tryz.func10 fun w0 => ?_
 refine gc (yt s t vA ra rd txg note LA CA hA oZ) ?_
 rintro _ _ ⟨ks,iI,c1,E,k1,k2,rfl,hE,rfl⟩
 rw [iK] at hE ⊢
 refine gc (T0 a l aQ txg note room vG vS ad c D hD ks (rZ ks k1 k2) E iI c1 hE) ?_
 rintro _ _ ⟨rfl,E',rfl⟩
 refine gd [0,4,8,12,20,24,28,32,17,36,40,44,48,56,60,64,68,53,72,76] ?_
 refine gc (Y5 s t vA ra rd txg note) ?_
 rintro _ _ ⟨rfl,rfl⟩
 refine gc (TY s t vA ra rd txg note) ?_
 rintro _ _ ⟨rfl,rfl⟩
 refine gl [0,1,5] (fun i:Nat=>[(6,.int .i64 i)]) (fun _=>[]) (fun i=>i<=l.length) (fun i=>l.length - i) 0 oZ ?_
 intro i hi
 refine gi ?_ ?_ <;> intro bh
 ·have bo:i<l.length:=by omega
  have jq:=hD
  obtain ⟨gD,off,rfl⟩:=hD.addr oZ
  have hs:=ar au.aj l i l[i] (by simp)
  have xe:=hs 0 _ (au.Pj _)
  obtain ⟨o1,ob,o2,o3,o4,o5,o6⟩:=KZ l[i] (List.getElem_mem bo)
  obtain ⟨⟨j2,cv,hv,RA⟩,xl⟩:=hO l[i] (List.getElem_mem bo)
  have xg:=hs 1 _ (show l[i].lay[1]? = some (.slice j2 l[i].b.length cv) by rw [<-hv];exact au.rD _)
  rw [hv] at xl
  have AY:=aQ.sm l[i] (List.getElem_mem bo)
  have eV:=aQ.no l[i] (List.getElem_mem bo)
  have bx:=IJ s t vA ra rd txg note LA CA hA all VA hG l[i].no
  rw [eL oZ o2] at bx
  have oM:=IK T fr p qs t pool tp pr n ls no V hV ok R C hC ho hall bW s vA ra rd txg note LA CA hA all VA hG l[i].no oZ 0 65536 oZ ob o2 oZ du o5 o6
  rw [show dB ob.size 0 65536=l[i].b.length by unfold dB;omega,<-o3,o4,o3] at oM
  refine gc bx ?_
  rintro _ _ ⟨rfl,rfl⟩
  refine gc oM ?_
  rintro _ _ ⟨ad2,c2,E2,rfl,hE2,rfl⟩
  have afQ:=hE2.rd
  refine gd [0,4,8,12,16,20,24,28,32,36,40,44,48,52,56,60,64,68,72,76,80,84,88,92,96,100,104,108,112,116,120,124,128] ?_
  refine gi ?_ ?_ <;> intro eP
  ·simp at eP
  ·refine gn ?_
   exact ⟨i+1,by omega,by omega,aq,_,aa⟩
 ·obtain rfl:i=l.length:=by omega
  refine gz ?_
  exact fin ⟨rfl,rfl⟩ aa
end
end Go.Proofs.YtcfioaeamfappaaGreatDoor
namespace Go.Sl
def Tp.nL (t:Tp):Prop:=324<=t.bz/\t.bz<=2048/\t.leaves<=5/\((t.kind=1/\t.leaves=1)\/(t.kind=2/\2<=t.leaves)\/(t.kind=3/\3<=t.leaves))
instance (t:Tp):Decidable t.nL:=by unfold Tp.nL;exact inferInstance
end Go.Sl
namespace Go.Proofs.YtcfioaeamfappaaGreatDoor
open Go.Sl
set_option maxRecDepth 10000
set_option maxHeartbeats 4000000
theorem Zc {t:Tp}(h:t.nL):dE t (decide (t.kind=3)) t.bz.toNat t.leaves.toNat:=by
 obtain ⟨h1,h2,h3,h4⟩:=h
 obtain ⟨k,l,s⟩:=t
 simp only at *
 exact ⟨by omega,by omega,fun h=>by have:=of_decide_eq_true h;omega,by simp only [Tp.mk.injEq];exact ⟨trivial,by omega,by omega⟩,rfl⟩
theorem Zd (k l s:Int):Ct 4 [.agg #[.int .i64 k,.int .i64 l,.int .i64 s]] [] fun u Bs=>u = .bool (decide (Tp.mk k l s).nL)/\Bs=[]:=by
 refine st Tryz.func4 fun w0 => ?_
 refine ga ?_;intro b1
 refine gg ?_ ?_ <;> intro h1
 ·refine gz ?_
  exact fin ⟨congrArg _ (decide_eq_false fun h=>by obtain ⟨a,b,c,d⟩:=h;simp only at *;omega).symm,rfl⟩ aa
 ·refine gg ?_ ?_ <;> intro h2
  ·refine gz ?_
   exact fin ⟨congrArg _ (decide_eq_false fun h=>by obtain ⟨a,b,c,d⟩:=h;simp only at *;omega).symm,rfl⟩ aa
  ·refine gi ?_ ?_ <;> intro h3
   ·refine gz ?_
    exact fin ⟨congrArg _ (decide_eq_false fun h=>by obtain ⟨a,b,c,d⟩:=h;simp only at *;omega).symm,rfl⟩ aa
   ·have hb:∀k':Int,(Tp.mk k' l s).nL↔((k'=1/\l=1)\/(k'=2/\2<=l)\/(k'=3/\3<=l)):=fun k'=>⟨fun h=>h.2.2.2,fun h=>⟨by simp only;omega,by simp only;omega,by simp only;omega,h⟩⟩
    have hh:=hb k
    refine gg ?_ ?_ <;> intro k1
    ·refine gg ?_ ?_ <;> intro k4
     ·refine gz ?_
      exact fin ⟨congrArg _ (by first | exact (decide_eq_true (hh.2 oZ)).symm | exact (decide_eq_false fun h=>by have:=hh.1 h;omega).symm | exact (decide_eq_decide.2 (hh.trans ⟨fun h=>by omega,fun h=>by omega⟩)).symm | (rw [show decide (Tp.mk k l s).nL=_ from decide_eq_decide.2 hh];simp;try omega)),rfl⟩ aa
     ·refine gz ?_
      exact fin ⟨congrArg _ (by first | exact (decide_eq_true (hh.2 oZ)).symm | exact (decide_eq_false fun h=>by have:=hh.1 h;omega).symm | exact (decide_eq_decide.2 (hh.trans ⟨fun h=>by omega,fun h=>by omega⟩)).symm | (rw [show decide (Tp.mk k l s).nL=_ from decide_eq_decide.2 hh];simp;try omega)),rfl⟩ aa
    ·refine gg ?_ ?_ <;> intro k2
     ·refine gg ?_ ?_ <;> intro k4
      ·refine gz ?_
       exact fin ⟨congrArg _ (by first | exact (decide_eq_true (hh.2 oZ)).symm | exact (decide_eq_false fun h=>by have:=hh.1 h;omega).symm | exact (decide_eq_decide.2 (hh.trans ⟨fun h=>by omega,fun h=>by omega⟩)).symm | (rw [show decide (Tp.mk k l s).nL=_ from decide_eq_decide.2 hh];simp;try omega)),rfl⟩ aa
      ·refine gz ?_
       exact fin ⟨congrArg _ (by first | exact (decide_eq_true (hh.2 oZ)).symm | exact (decide_eq_false fun h=>by have:=hh.1 h;omega).symm | exact (decide_eq_decide.2 (hh.trans ⟨fun h=>by omega,fun h=>by omega⟩)).symm | (rw [show decide (Tp.mk k l s).nL=_ from decide_eq_decide.2 hh];simp;try omega)),rfl⟩ aa
     ·refine gg ?_ ?_ <;> intro k3
      ·refine gz ?_
       exact fin ⟨congrArg _ (by first | exact (decide_eq_true (hh.2 oZ)).symm | exact (decide_eq_false fun h=>by have:=hh.1 h;omega).symm | exact (decide_eq_decide.2 (hh.trans ⟨fun h=>by omega,fun h=>by omega⟩)).symm | (rw [show decide (Tp.mk k l s).nL=_ from decide_eq_decide.2 hh];simp;try omega)),rfl⟩ aa
      ·refine gz ?_
       exact fin ⟨congrArg _ (by first | exact (decide_eq_true (hh.2 oZ)).symm | exact (decide_eq_false fun h=>by have:=hh.1 h;omega).symm | exact (decide_eq_decide.2 (hh.trans ⟨fun h=>by omega,fun h=>by omega⟩)).symm | (rw [show decide (Tp.mk k l s).nL=_ from decide_eq_decide.2 hh];simp;try omega)),rfl⟩ aa
theorem IQ (t:Tp):Ct 4 [t.agg] [] fun u Bs=>u = .bool (decide t.nL)/\Bs=[]:=Zd t.kind t.leaves t.bz
theorem Uc (k:Int)(w j:Nat)(hw:1<=w/\w<=5)(hj:j<=2048)(hk:k=3->3<=w):Ct 45 [.agg #[.int .i64 k,.int .i64 (w:Nat),.int .i64 (j+292:Nat)]] [] fun u Bs=>u = .int .i64 (if k=3 then (j*w) / (8+((8+w - 2) / (w - 1))) else j / 8:Nat)/\Bs=[]:=by
 have hjw:j*w<=2048*5:=Nat.mul_le_mul hj hw.2
 have hq:(8+w - 2) / (w - 1)<=8+w - 2:=Nat.div_le_self _ _
 refine st Tryz.func45 fun w0 => ?_
 refine ga ?_;intro b1
 refine gi ?_ ?_ <;> intro h1
 ·have h3:k=3:=by simpa using h1
  have hk:=hk h3
  rw [if_pos h3]
  have e1:IntKind.i64.wrap (((j+292 - 292:Nat):Int)*(w:Int))=((j*w:Nat):Int):=by
   rw [Nat.add_sub_cancel,show (j:Int)*(w:Int)=((j*w:Nat):Int) from rfl,IntWalk.i64_in _ oZ]
  have e2:IntKind.i64.wrap (8+IntKind.i64.wrap ((8+(w:Int) - 2).tdiv ((w - 1:Nat):Int)))=((8+(8+w - 2) / (w - 1):Nat):Int):=by
   rw [show (8+(w:Int) - 2)=((8+w - 2:Nat):Int) by omega,Int.tdiv_eq_ediv_of_nonneg oZ,show (((8+w - 2:Nat):Int) / ((w - 1:Nat):Int))=(((8+w - 2) / (w - 1):Nat):Int) from rfl]
   generalize (8+w - 2) / (w - 1)=x at *
   rw [IntWalk.i64_in (x:Int) oZ,IntWalk.i64_in _ oZ]
   omega
  have e3:8+(8+w - 2) / (w - 1)≠0:=Nat.ne_of_gt (Nat.add_pos_left dZ _)
  refine gz ?_
  exact fin ⟨rfl,rfl⟩ aa
 ·have h3:¬k=3:=by simpa using h1
  rw [if_neg h3]
  refine gz ?_
  exact fin ⟨by rw [Nat.add_sub_cancel],rfl⟩ aa
theorem PJ (tp:Tp)(pr:Bool)(n w:Nat)(ok:dE tp pr n w)(dx:n<=2048):Ct 45 [tp.agg] [] fun u Bs=>u = .int .i64 (bD pr w n / aN pr w 1024:Nat)/\Bs=[]:=by
 obtain ⟨⟨hn, -⟩,hw,hp,ht,hk⟩:=ok
 obtain ⟨k,l,s⟩:=tp
 obtain ⟨rfl,rfl⟩:l=w/\s=n:=by simpa using ht
 obtain ⟨j,rfl⟩:∃j,n=j+292:=⟨n - 292,by omega⟩
 have h:=Uc k w j hw oZ (fun h=>hp (by rw [hk];exact decide_eq_true h))
 have e:(if k=3 then (j*w) / (8+((8+w - 2) / (w - 1))) else j / 8)=bD pr w (j+292) / aN pr w 1024:=by
  simp only at hk
  by_cases h3:k=3
  ·have hp':=hp (by rw [hk];exact decide_eq_true h3)
   rw [if_pos h3,hk,bD,aN,decide_eq_true h3,if_pos rfl,if_pos rfl,Nat.add_sub_cancel,Nat.mul_comm,dG,show aD 1024=8 from rfl,show 8+w - 2=8+(w - 2) by omega]
  ·rw [if_neg h3,hk,bD,aN,decide_eq_false h3,if_neg Bool.false_ne_true,if_neg Bool.false_ne_true,Nat.add_sub_cancel,show aD 1024=8 from rfl]
 rw [e] at h
 exact h
theorem Ud (tp:Tp)(pr:Bool)(n w:Nat)(ok:dE tp pr n w)(dx:n<=2048)(O:Chunk)(ad:Option Addr)(c:Nat)(hO:Rd O 3 (.slice ad 1 c) 1 tp.lay):Ct 17 [.slice ad 1 c] [O] fun u Bs=>u = .int .i64 (((bD pr w n / aN pr w 1024 / 4:Nat):Int) - 10)/\Bs=[O]:=by
 have fM:=PJ tp pr n w ok dx
 have h2:=iA pr ok.hw ⟨ok.hn.1,dx⟩
 have hq:bD pr w n / aN pr w 1024<=10240:=Nat.le_trans (Nat.div_le_self _ _) h2.2
 generalize bD pr w n / aN pr w 1024=z at *
 obtain ⟨g,o,rfl⟩:=hO.addr oZ
 have hs:Sub (0*3) tp.lay tp.lay:=ar Tp.aj [tp] 0 tp rfl
 refine st Tryz.func17 fun w0 => ?_
 refine gl [0,2] (fun ((i,q):Nat×Nat)=>[(4,.int .i64 i),(3,.int .i64 q)]) (fun _=>[]) (fun (i,q)=>i<=1/\q=if i=0 then 0 else z) (fun (i,_)=>1 - i) (0,0) ⟨by omega,rfl⟩ ?_
 rintro ⟨i,q⟩ ⟨hi,RK⟩
 refine gi ?_ ?_ <;> intro bh
 ·obtain rfl:i=0:=by omega
  obtain rfl:q=0:=RK
  refine gc fM ?_
  rintro _ _ ⟨rfl,rfl⟩
  refine gn ?_
  exact ⟨(1,z),⟨by omega,rfl⟩,by simp only;omega,aq,_,aa⟩
 ·obtain rfl:i=1:=by omega
  rw [if_neg oZ] at RK
  subst RK
  have hw:IntKind.i64.wrap (((q / 4:Nat):Int) - 10)=((q / 4:Nat):Int) - 10:=IntWalk.i64_in _ oZ
  refine gz ?_
  exact fin ⟨rfl,rfl⟩ aa
end Go.Proofs.YtcfioaeamfappaaGreatDoor
namespace Go.Sl
def lZ (o:au)(l:List au):List au×Bool:=l.foldl (fun p x=>(p.1++((if p.2=false/\o.no<=x.no then [o] else [])++(if x.no=o.no then [] else [x])),p.2||decide (o.no<=x.no))) ([],false)
theorem Eb (o:au):∀(l:List au) (p:List au×Bool),(l.foldl (fun p x=>(p.1++((if p.2=false/\o.no<=x.no then [o] else [])++(if x.no=o.no then [] else [x])),p.2||decide (o.no<=x.no))) p).1++(if (l.foldl (fun p x=>(p.1++((if p.2=false/\o.no<=x.no then [o] else [])++(if x.no=o.no then [] else [x])),p.2||decide (o.no<=x.no))) p).2 then [] else [o])=p.1++dF o p.2 l
 | [],p=>rfl
 | x :: r,p=>by
  rw [List.foldl_cons,Eb o r,dF]
  simp only [List.append_assoc]
theorem PK (o:au)(l:List au):(lZ o l).1++(if (lZ o l).2 then [] else [o])=dF o false l:=Eb o l ([],false)
theorem yB {o:au}{l:List au}{i:Nat}(hi:i<l.length):lZ o (l.take (i+1))=((lZ o (l.take i)).1++((if (lZ o (l.take i)).2=false/\o.no<=l[i].no then [o] else [])++(if l[i].no=o.no then [] else [l[i]])),(lZ o (l.take i)).2||decide (o.no<=l[i].no)):=by
 unfold lZ
 rw [aG l hi,List.foldl_append];rfl
theorem Ec (o:au):∀(l:List au) (i:Nat),i<=l.length->(lZ o (l.take i)).1.length<=2*i
 | l,0,_=>by simp [lZ]
 | l,i+1,h=>by
  have ih:=Ec o l i oZ
  rw [yB oZ]
  simp only [List.length_append]
  split <;> split <;> simp <;> omega
end Go.Sl
namespace Go.Proofs.YtcfioaeamfappaaGreatDoor
open Go.Sl
set_option maxRecDepth 10000
set_option maxHeartbeats 4000000
theorem GY (a:Nat)(l:List au)(aQ:mJ l)(txg note room:Nat)(vG vS:Value)(ad:Option Addr)(c:Nat)(D:Chunk)(hD:Rd D 130 (.slice ad l.length c) l.length (l.flatMap au.lay))(o:au)(hv:o.v.oneCell'=true)(vV:∀x∈l,x.v.oneCell'=true) :
  Ct 114 [ptr a,.agg o.lay.toArray] [[(a,eK (.slice ad l.length c) txg note room vG vS)],D] fun _ Bs=>∃ba c' D',az D' 65 130 (.slice ba (dF o false l).length c') (dF o false l).length ((dF o false l).flatMap au.lay)/\Bs=[[(a,eK (.slice ba (dF o false l).length c') txg note room vG vS)],D']:=by
 have nJ:=aQ.jE
 have Gy:=o.aj
 have ho0:=o.Pj
 have OD:=hD
 have fE:=o.bC hv
 have pq:=PK o l
 refine st Tryz.func114 fun w0 => ?_
 refine ga ?_;intro b3
 refine gl [0,3] (fun ((i,pF,c4,_):Nat×Option Addr×Nat×Chunk)=>[(6,.int .i64 i),(4,.slice pF (lZ o (l.take i)).1.length c4),(5,.bool (lZ o (l.take i)).2)]) (fun (_,_,_,E)=>[E]) (fun (i,pF,c4,E)=>i<=l.length/\az E 65 130 (.slice pF (lZ o (l.take i)).1.length c4) (lZ o (l.take i)).1.length ((lZ o (l.take i)).1.flatMap au.lay)) (fun (i,_)=>l.length - i) (0,none,0,[]) ⟨by omega,az.nil _ _⟩ ?_
 rintro ⟨i,pF,c4,E⟩ ⟨hi,hE⟩
 have hgl:=Ec o l i hi
 refine gi ?_ ?_ <;> intro bh
 ·have bo:i<l.length:=by omega
  obtain ⟨g,off,rfl⟩:=OD.addr oZ
  have sw:=yB (o:=o) bo
  obtain ⟨x,hx⟩:∃x,x=l[i]:=⟨_,rfl⟩
  have hs:=ar au.aj l i x (by rw [hx];simp)
  have Fe:=x.aj
  have Fc:=x.bC (vV x (by rw [hx];exact List.getElem_mem _))
  rw [<-hx] at sw
  have xe:=hs 0 _ x.Pj
  generalize lZ o (l.take i)=p at *
  obtain ⟨P,d⟩:=p
  simp only at hE hgl sw ⊢
  have hRx:∀b,Rd [(b,av x.lay 65)] 130 (.slice (some ⟨b,0,none⟩) 1 1) 1 x.lay:=fun b=>aw (by rw [Fe]) Fc (by simp) _
  have Mf:∀b,Rd [(b,av o.lay 65)] 130 (.slice (some ⟨b,0,none⟩) 1 1) 1 o.lay:=fun b=>aw (by rw [Gy]) fE (by simp) _
  have s7:(P++[o]).length=P.length+1:=by simp
  have jc:(P++[o]++[x]).length=P.length+1+1:=by simp
  have hl3:(P++[x]).length=P.length+1:=by simp
  by_cases hd:d=false/\o.no<=x.no
  ·obtain ⟨rfl,hle⟩:=hd
   rw [if_pos ⟨rfl,hle⟩,decide_eq_true hle] at sw
   refine gm ?_;intro b33
   have aea:=Mf b33
   refine gp ?_;intro rf c5 E5 hE5
   clear aea
   by_cases he:x.no=o.no
   ·have sw:lZ o (l.take (i+1))=(P++[o],true):=by rw [sw,if_pos he];simp
    refine gn ?_
    exact ⟨(i+1,rf,c5,E5),⟨by omega,by rw [sw];simpa using hE5⟩,by simp only;omega,by simp only [sw,s7];exact aq,_,aa⟩
   ·have sw:lZ o (l.take (i+1))=(P++[o]++[x],true):=by rw [sw,if_neg he];simp
    refine gm ?_;intro b54
    have aeb:=hRx b54
    refine gp ?_;intro F3 c6 E6 hE6
    refine gn ?_
    exact ⟨(i+1,F3,c6,E6),⟨by omega,by rw [sw];simpa using hE6⟩,by simp only;omega,by simp only [sw,jc];exact aq,_,aa⟩
  ·have hd2:(d||decide (o.no<=x.no))=d:=by
    cases d with
    | true=>rfl
    | false=>exact decide_eq_false fun h=>hd ⟨rfl,h⟩
   rw [if_neg hd,hd2] at sw
   have ib:d=true\/d=false/\¬o.no<=x.no:=by
    cases d with
    | true=>exact .inl rfl
    | false=>exact .inr ⟨rfl,fun h=>hd ⟨rfl,h⟩⟩
   rcases ib with rfl | ⟨rfl,ib⟩
   all_goals
    by_cases he:x.no=o.no
    ·rw [if_pos he,List.append_nil,List.append_nil] at sw
     first | omega | (refine gn ?_;exact ⟨(i+1,pF,c4,E),⟨by omega,by rw [sw];exact hE⟩,by simp only;omega,by simp only [sw];exact aq,_,aa⟩)
    ·rw [if_neg he,List.nil_append] at sw
     refine gm ?_;intro b54
     have aeb:=hRx b54
     refine gp ?_;intro F3 c6 E6 hE6
     refine gn ?_
     exact ⟨(i+1,F3,c6,E6),⟨by omega,by rw [sw];simpa using hE6⟩,by simp only;omega,by simp only [sw,hl3];exact aq,_,aa⟩
 ·obtain rfl:i=l.length:=by omega
  rw [List.take_length] at hE hgl ⊢
  generalize lZ o l=p at *
  obtain ⟨P,d⟩:=p
  simp only at hE hgl pq ⊢
  cases d with
  | true =>
   have e:P=dF o false l:=by simpa using pq
   subst e
   refine gz ?_
   exact fin ⟨pF,c4,E,hE,rfl⟩ aa
  | false =>
   have e:P++[o]=dF o false l:=by simpa using pq
   rw [<-e]
   refine gm ?_;intro b60
   have afR:Rd [(b60,av o.lay 65)] 130 (.slice (some ⟨b60,0,none⟩) 1 1) 1 o.lay:=aw (by rw [Gy]) fE (by simp) _
   refine gp ?_;intro rf c5 E5 hE5
   have hl5:(P++[o]).length=P.length+1:=by simp
   refine gz ?_
   exact fin ⟨rf,c5,E5,by rw [hl5];simpa using hE5,by rw [hl5]⟩ aa
end Go.Proofs.YtcfioaeamfappaaGreatDoor
namespace Go.Sl
def GZ (k:Nat):au:=⟨k,[],fun _=>0,fun _=>false,.slice none 0 0⟩
theorem wj (k:Nat):(GZ k).lay=[.int .i64 k,.slice none 0 0,.int .u64 0,.int .u64 0,.int .u64 0,.int .u64 0,.int .u64 0,.int .u64 0,.int .u64 0,.int .u64 0,.int .u64 0,.int .u64 0,.int .u64 0,.int .u64 0,.int .u64 0,.int .u64 0,.int .u64 0,.int .u64 0,.int .u64 0,.int .u64 0,.int .u64 0,.int .u64 0,.int .u64 0,.int .u64 0,.int .u64 0,.int .u64 0,.int .u64 0,.int .u64 0,.int .u64 0,.int .u64 0,.int .u64 0,.int .u64 0,.int .u64 0,.int .u64 0,.int .u64 0,.int .u64 0,.int .u64 0,.int .u64 0,.int .u64 0,.int .u64 0,.int .u64 0,.int .u64 0,.int .u64 0,.int .u64 0,.int .u64 0,.int .u64 0,.int .u64 0,.int .u64 0,.int .u64 0,.int .u64 0,.int .u64 0,.int .u64 0,.int .u64 0,.int .u64 0,.int .u64 0,.int .u64 0,.int .u64 0,.int .u64 0,.int .u64 0,.int .u64 0,.int .u64 0,.int .u64 0,.int .u64 0,.int .u64 0,.int .u64 0,.int .u64 0,.bool false,.bool false,.bool false,.bool false,.bool false,.bool false,.bool false,.bool false,.bool false,.bool false,.bool false,.bool false,.bool false,.bool false,.bool false,.bool false,.bool false,.bool false,.bool false,.bool false,.bool false,.bool false,.bool false,.bool false,.bool false,.bool false,.bool false,.bool false,.bool false,.bool false,.bool false,.bool false,.bool false,.bool false,.bool false,.bool false,.bool false,.bool false,.bool false,.bool false,.bool false,.bool false,.bool false,.bool false,.bool false,.bool false,.bool false,.bool false,.bool false,.bool false,.bool false,.bool false,.bool false,.bool false,.bool false,.bool false,.bool false,.bool false,.bool false,.bool false,.bool false,.bool false,.bool false,.bool false]:=by unfold au.lay;rfl
theorem au.Ww (o:au)(b:List UInt8):({ o with b:=b }:au).lay=o.lay:=by unfold au.lay;rfl
theorem kO {o x:au}:∀ {l:List au} {d:Bool},x∈dF o d l->x=o\/x∈l
 | [],d,h=>by
  unfold dF at h
  split at h
  ·cases h
  ·exact .inl (List.mem_singleton.1 h)
 | y :: r,d,h=>by
  rw [dF,List.mem_append,List.mem_append] at h
  rcases h with h | h | h
  ·split at h
   ·exact .inl (List.mem_singleton.1 h)
   ·cases h
  ·split at h
   ·cases h
   ·rw [List.mem_singleton.1 h];exact .inr (List.mem_cons_self ..)
  ·rcases kO h with h | h
   ·exact .inl h
   ·exact .inr (List.mem_cons_of_mem _ h)
def kP (l:List au)(k:Nat):au:=(ey l k).getD (GZ k)
def K0 (b:List UInt8)(size a:Nat)(x:List UInt8):List UInt8:=((dH size b).take a++x)++(dH size b).drop (a+x.length)
theorem IS {b x:List UInt8}{size a:Nat}(h:a+x.length<=size):(K0 b size a x).length=size:=by
 simp only [K0,List.length_append,List.length_take,List.length_drop,dQ];omega
def p7 (o:au)(a j k:Nat):Bool:=o.gC k||cQ a j k
theorem K1 (o:au)(a:Nat):p7 o a 0=o.gC:=by
 funext k
 have:cQ a 0 k=false:=decide_eq_false oZ
 simp [p7,this]
theorem K3 (o:au)(a j:Nat):upd (p7 o a j) ((a+j) / 1024) true=p7 o a (j+1):=by
 funext k
 unfold upd p7
 have h:cQ a (j+1) k=(cQ a j k||decide (k=(a+j) / 1024)):=by
  simp only [cQ]
  rw [<-Bool.decide_or]
  exact decide_eq_decide.2 oZ
 rw [h]
 by_cases c:k=(a+j) / 1024
 ·rw [if_pos c,decide_eq_true c];simp
 ·rw [if_neg c,decide_eq_false c];simp
theorem IT (size:Nat)(b:List UInt8):(List.replicate size (Value.int .u8 0)).take 0++(ak b).take (min b.length size)++(List.replicate size (Value.int .u8 0)).drop (0+min b.length size)=ak (dH size b):=GN size b
theorem Ze {b x:List UInt8}{size a:Nat}(h:a+x.length<=size):(ak (dH size b)).take a++(ak x).take (min x.length (size - a))++(ak (dH size b)).drop (a+min x.length (size - a))=ak (K0 b size a x):=by
 rw [Nat.min_eq_left oZ,aL,aL,aY,List.take_of_length_le (Nat.le_refl _),<-aE,<-aE];rfl
end Go.Sl
namespace Go.Proofs.YtcfioaeamfappaaGreatDoor
open Go.Sl
section
variable {X:Cx}{f:Fx}{k:Kt}{e:Env}{Ls:List Chunk}{ops:List Oper}{Ms:List Chunk}{r':aA}{κ d:Nat}{t:TypeId}{x:Operand}
theorem WD.slE {b off:Nat}{m c lo hi mx s:Nat}{ol oh om:Option Operand}(hκ:calm κ=true)(hx:ev e x=some (.slice (some ⟨b,off,none⟩) m c))(hT:X.T.Ok X.P)(hs:VK X.T t=some s)(hl:Bd e ol 0 lo)(hh:Bd e oh m hi)(hm:Bd e om c mx)(aQ:okB ol oh om=true)(h:lo=hi/\hi<=m/\hi=mx/\mx<=c)
  (g:WO X f ops k Ms r' ((d,.slice (some ⟨b,off,none⟩) 0 0) :: e) Ls):WD X f ops k Ms κ (some d) (.slice t x ol oh om) r' e Ls:=by
 obtain ⟨el,g1,g2⟩:=qT hT hs
 obtain ⟨rfl,h2,rfl,h4⟩:=h
 have hv:sliced (some ⟨b,off,none⟩) lo lo lo s = .slice (some ⟨b,off,none⟩) 0 0:=by simp [sliced]
 exact .rd hκ (fun o a w ho E _=>hv ▸ zk E ho hx g1 g2 hl hh hm aQ (Nat.le_refl _) (Nat.le_refl _) h4) g
theorem gve {G H:Prop}(k:H)(h:gE H->G:=by
 intro kk;refine go ?_;refine WO.dec rfl ?_
 apply WD.slE;exact rfl;exact rfl;exact aB;exact rfl;exact LL;exact LL;exact LL;exact rfl;exact lens;exact kk.out):G:=h ⟨k⟩
end
set_option maxRecDepth 10000
set_option maxHeartbeats 4000000
section
variable (a:Nat)(l:List au)(aQ:mJ l)(txg note room:Nat)(eN:room<=100000)(vG vS:Value)(ad:Option Addr)(c:Nat)(D O:Chunk)(hD:Rd D 130 (.slice ad l.length c) l.length (l.flatMap au.lay))(hO:DE O l)
theorem Ed (k x:Int)(gf:Option Addr)(m cb:Nat)(h:¬(1<=k/\k<=112)\/x<0\/65536<x\/65536 - x<m):Ct 47 [ptr a,.int .i64 k,.int .i64 x,.slice gf m cb] [] fun u Bs=>u = .int .i64 1/\Bs=[]:=by
 have hn:=cA k
 refine st Tryz.func47 fun w0 => ?_
 refine gc hn ?_
 rintro _ _ ⟨rfl,rfl⟩
 by_cases hk:1<=k/\k<=112
 ·rw [decide_eq_true hk]
  have h:=h.resolve_left (fun c=>c hk)
  by_cases hx:x<0
  ·refine gz ?_
   exact fin ⟨rfl,rfl⟩ aa
  ·have h:=h.resolve_left hx
   by_cases Yi:65536<x
   ·refine gz ?_
    exact fin ⟨rfl,rfl⟩ aa
   ·have h:=h.resolve_left Yi
    have hs:IntKind.i64.wrap (65536 - x)=65536 - x:=IntWalk.i64_in _ oZ
    refine gz ?_
    exact fin ⟨rfl,rfl⟩ aa
 ·rw [decide_eq_false hk]
  refine gz ?_
  exact fin ⟨rfl,rfl⟩ aa
include aQ hD hO eN
omit eN hD in
theorem Zf (k:Nat):(∃j2 cv,(kP l k).v = .slice j2 (kP l k).b.length cv/\(kP l k).b.length<=cv)/\Rd O 1 (kP l k).v (kP l k).b.length (ak (kP l k).b)/\(kP l k).b.length<=65536:=by
 unfold kP
 cases h:ey l k with
 | none=>exact ⟨⟨none,0,rfl,Nat.le_refl _⟩,Rd.nil _ _,Nat.zero_le _⟩
 | some o =>
  have hm:=(fg h).1
  exact ⟨(hO o hm).1,(hO o hm).2,aQ.sm o hm⟩
theorem yC (k:Nat)(hk:1<=k/\k<=112)(x m:Nat)(Ti:x+m<=65536)(B:Chunk)(gf:Option Addr)(cb:Nat)(b:List UInt8)(cV:b.length=m)(hB:Rd B 1 (.slice gf m cb) m (ak b))(G0:m<=cb) :
  Ct 47 [ptr a,.int .i64 k,.int .i64 x,.slice gf m cb] [[(a,eK (.slice ad l.length c) txg note room vG vS)],D,O,B] fun u Bs=>(cy l k (max (kP l k).b.length (x+m)) room=false/\u = .int .i64 3/\Bs=[[(a,eK (.slice ad l.length c) txg note room vG vS)],D,O,B])\/(cy l k (max (kP l k).b.length (x+m)) room=true/\u = .int .i64 0/\∃v l' ba c' D' E,l'=dF { kP l k with b:=K0 (kP l k).b (max (kP l k).b.length (x+m)) x b,gC:=p7 (kP l k) x m,v:=v } false l/\DE (O++E) l' /\
   az D' 65 130 (.slice ba l'.length c') l'.length (l'.flatMap au.lay)/\Bs=[[(a,eK (.slice ba l'.length c') txg note room vG vS)],D',O,E,B]):=by
 have hn:=cA k
 rw [decide_eq_true oZ] at hn
 have gh:=nW a l aQ txg note room vG vS ad c D hD k
 have bE:=fun size hs=>Ai a l aQ txg note room vG vS ad c D O hD hO k size hs eN
 have bL:=fun o hv=>GY a l aQ txg note room vG vS ad c D hD o hv (fun x hx=>by obtain ⟨⟨ad,c,hv, -⟩, -⟩:=hO x hx;rw [hv];rfl)
 obtain ⟨⟨j2,cv,hv,RA⟩,Mf,AY⟩:=Zf l aQ O hO k
 have abA:ey l k=none->GZ k=kP l k:=fun h=>by unfold kP;rw [h];rfl
 have abB:∀o,ey l k=some o->o=kP l k:=fun o h=>by unfold kP;rw [h];rfl
 have jq:=hD
 have nJ:=aQ.jE
 obtain ⟨o,ho⟩:∃o,o=kP l k:=⟨_,rfl⟩
 rw [<-ho] at hv RA Mf AY abA abB ⊢
 have Gy:=o.aj
 have fE:=o.bC (by rw [hv];rfl)
 have Xn:o.lay[1]? = some (.slice j2 o.b.length cv):=by rw [<-hv];exact au.rD _
 rw [hv] at Mf
 refine st Tryz.func47 fun w0 => ?_
 refine gc hn ?_
 rintro _ _ ⟨rfl,rfl⟩
 have hs:IntKind.i64.wrap (65536 - (x:Int))=((65536 - x:Nat):Int):=by rw [IntWalk.i64_in _ oZ];omega
 refine ga ?_;intro wV
 refine gc gh ?_
 rintro _ _ ⟨⟨rfl,hn⟩ | ⟨i,o',rfl,hi,hn⟩,rfl⟩
 case' inl =>
  have e:=abA hn
  rw [<-wj,e]
 case' inr =>
  have e:=abB _ hn
  have bo:=(List.getElem?_eq_some_iff.1 hi).1
  obtain ⟨gD,off,rfl⟩:=jq.addr oZ
  have hs:=ar au.aj l i o' hi
  rw [e] at hs
  have LS:=(GZ k).aj
  rw [<-wj]
 all_goals
  obtain ⟨z,hz⟩:∃z,z=max o.b.length (x+m):=⟨_,rfl⟩
  rw [<-hz]
  have Zg:=bE z oZ
  refine gi ?_ ?_ <;> intro Fm
  case' refine_1 =>
   have Ic:x+m=z:=by omega
   refine go ?_
   rw [Ic]
  case' refine_2 =>
   have Ic:o.b.length=z:=by omega
   rw [Ic]
  all_goals
   cases IU:cy l k z room with
   | false =>
    rw [IU] at Zg
    refine gc Zg ?_
    rintro _ _ ⟨rfl,rfl⟩
    refine gz ?_
    exact fin (.inl ⟨rfl,rfl,rfl⟩) aa
   | true =>
    rw [IU] at Zg
    refine gc Zg ?_
    rintro _ _ ⟨rfl,rfl⟩
    have abC:=IT z o.b
    have mj:(ak (dH z o.b)).length=z:=by rw [ai,dQ]
    obtain ⟨nb,A0⟩:∃nb,nb=K0 o.b z x b:=⟨_,rfl⟩
    have PL:nb.length=z:=by rw [A0];exact IS oZ
    rw [<-A0]
    refine gm ?_;intro g14
    refine gy ?_
    by_cases GK:x<z\/x=0
    case' pos =>
     have Ue:=Ze (b:=o.b) (x:=b) (size:=z) (a:=x) oZ
     rw [cV,<-A0] at Ue
     refine gv ?_
     refine gy ?_
    case' neg =>
     have PC:b=[]:=List.eq_nil_of_length_eq_zero oZ
     have Ue:(ak (dH z o.b)).take 0++(ak b).take (min m 0)++(ak (dH z o.b)).drop (0+min m 0)=ak nb:=by
      rw [A0,PC,K0,Nat.min_zero];simp
     refine gve ?_
     refine gy ?_
    all_goals
     obtain ⟨ob,KZ⟩:∃ob:Nat->au,ob=fun j=>{ o with b:=nb,gC:=p7 o x j,v:=.slice (some ⟨g14,0,none⟩) z z }:=⟨_,rfl⟩
     have e0:o.lay.set 1 (.slice (some ⟨g14,0,none⟩) z z)=(ob 0).lay:=by rw [au.TW,<-au.Ww _ nb,KZ];simp only [K1]
     have e1:∀j,x+j<65536->(ob j).lay.set (66+(x+j) / 1024) (.bool true)=(ob (j+1)).lay:=fun j hj=>by rw [au.tC _ oZ,KZ];simp only [K3]
     have Zh:∀j,(ob j).lay.length=130:=fun j=>au.aj _
     have PN:∀j,ob j={ o with b:=nb,gC:=p7 o x j,v:=.slice (some ⟨g14,0,none⟩) z z }:=fun j=>by rw [KZ]
     clear KZ
     refine go ?_
     rw [e0]
     refine gl [0,2,3,10] (fun (j:Nat)=>[(15,.int .i64 j)]) (fun j=>[[(wV,av (ob j).lay 65)]]) (fun j=>j<=m) (fun j=>m - j) 0 oZ ?_
     intro j hj
     have hoj:=Zh j
     by_cases bh:j<m
     ·have e1:=e1 j oZ
      first | (exfalso;omega) | (refine gn ?_;rw [e1];exact ⟨j+1,by omega,by omega,aq,_,aa⟩)
     ·obtain rfl:j=m:=by omega
      have hpj:=bL (ob j) (by rw [PN];rfl)
      refine gc hpj ?_
      rintro _ _ ⟨ba,c',D',eo,rfl⟩
      refine gz ?_
      refine fin (.inr ⟨rfl,rfl,.slice (some ⟨g14,0,none⟩) z z,dF (ob j) false l,ba,c',D',[(g14,av (ak nb) 5)],by rw [PN],fun q hq => ?_,eo,rfl⟩) aa
      rcases kO hq with rfl | hq
      ·rw [PN]
       simp only [PL]
       exact ⟨⟨_,z,rfl,Nat.le_refl _⟩,(aw (by rw [ai,PL,Nat.mul_one]) (aK _) oZ z).sub fun y hy=>List.mem_append_right _ hy⟩
      ·exact ⟨(hO q hq).1,(hO q hq).2.sub fun y hy=>List.mem_append_left _ hy⟩
end
end Go.Proofs.YtcfioaeamfappaaGreatDoor
namespace Go.Sl
def xy (o:au)(z n:Nat):au:={ o with gC:=fun j=>if j<n then (if z<=1024*j then false else if z<1024*j+1024 then true else o.gC j) else o.gC j,born:=fun j=>if j<n/\z<=1024*j then 0 else o.born j }
def Wx (o:au)(z:Nat):au:=if z<o.b.length then xy o z 64 else o
theorem PO (o:au)(z:Nat):xy o z 0=o:=by
 cases o
 simp [xy]
theorem abD {o:au}{z n:Nat}(hn:n<64)(h:z<=1024*n):((xy o z n).lay.set (66+n) (.bool false)).set (2+n) (.int .u64 0)=(xy o z (n+1)).lay:=by
 rw [au.tC _ hn]
 refine (au.vY _ hn 0).trans ?_
 congr 1
 simp only [xy,au.mk.injEq,true_and,and_true]
 refine ⟨?_, ?_⟩ <;> funext j <;> try simp only [upd]
 ·by_cases c:j=n
  ·subst c;rw [if_pos rfl,if_pos ⟨by omega,h⟩]
  ·rw [if_neg c]
   by_cases d:j<n/\z<=1024*j
   ·rw [if_pos d,if_pos ⟨by omega,d.2⟩]
   ·rw [if_neg d,if_neg oZ]
 ·by_cases c:j=n
  ·subst c;rw [if_pos rfl,if_pos oZ,if_pos h]
  ·rw [if_neg c]
   by_cases d:j<n
   ·rw [if_pos d,if_pos (show j<n+1 by omega)]
   ·rw [if_neg d,if_neg oZ]
theorem abE {o:au}{z n:Nat}(hn:n<64)(h:¬z<=1024*n)(h2:z<1024*n+1024):(xy o z n).lay.set (66+n) (.bool true)=(xy o z (n+1)).lay:=by
 rw [au.tC _ hn]
 congr 1
 simp only [xy,au.mk.injEq,true_and,and_true]
 refine ⟨?_, ?_⟩ <;> funext j <;> try simp only [upd]
 ·by_cases c:j=n
  ·subst c;rw [if_neg oZ,if_neg oZ]
  ·by_cases d:j<n/\z<=1024*j
   ·rw [if_pos d,if_pos ⟨by omega,d.2⟩]
   ·rw [if_neg d,if_neg oZ]
 ·by_cases c:j=n
  ·subst c;rw [if_pos rfl,if_pos oZ,if_neg h,if_pos h2]
  ·rw [if_neg c]
   by_cases d:j<n
   ·rw [if_pos d,if_pos (show j<n+1 by omega)]
   ·rw [if_neg d,if_neg oZ]
theorem abF {o:au}{z n:Nat}(h2:¬z<1024*n+1024):xy o z n=xy o z (n+1):=by
 simp only [xy,au.mk.injEq,true_and,and_true]
 refine ⟨?_, ?_⟩ <;> funext j
 ·by_cases d:j<n/\z<=1024*j
  ·rw [if_pos d,if_pos ⟨by omega,d.2⟩]
  ·rw [if_neg d,if_neg oZ]
 ·by_cases c:j=n
  ·subst c;rw [if_neg oZ,if_pos oZ,if_neg oZ,if_neg h2]
  ·by_cases d:j<n
   ·rw [if_pos d,if_pos (show j<n+1 by omega)]
   ·rw [if_neg d,if_neg oZ]
end Go.Sl
namespace Go.Proofs.YtcfioaeamfappaaGreatDoor
open Go.Sl
set_option maxRecDepth 10000
set_option maxHeartbeats 4000000
section
variable (a:Nat)(l:List au)(aQ:mJ l)(txg note room:Nat)(eN:room<=100000)(vG vS:Value)(ad:Option Addr)(c:Nat)(D O:Chunk)(hD:Rd D 130 (.slice ad l.length c) l.length (l.flatMap au.lay))(hO:DE O l)
theorem Ee (k z:Int)(h:¬(1<=k/\k<=112)\/z<0\/65536<z):Ct 49 [ptr a,.int .i64 k,.int .i64 z] [] fun u Bs=>u = .int .i64 1/\Bs=[]:=by
 have hn:=cA k
 refine st Tryz.func49 fun w0 => ?_
 refine gc hn ?_
 rintro _ _ ⟨rfl,rfl⟩
 by_cases hk:1<=k/\k<=112
 ·rw [decide_eq_true hk]
  have h:=h.resolve_left (fun c=>c hk)
  by_cases hx:z<0
  ·refine gz ?_
   exact fin ⟨rfl,rfl⟩ aa
  ·have h:=h.resolve_left hx
   refine gz ?_
   exact fin ⟨rfl,rfl⟩ aa
 ·rw [decide_eq_false hk]
  refine gz ?_
  exact fin ⟨rfl,rfl⟩ aa
include aQ hD hO eN
theorem rJ (k:Int)(hk:1<=k/\k<=112)(z:Nat)(hz:z<=65536) :
  Ct 49 [ptr a,.int .i64 k,.int .i64 z] [[(a,eK (.slice ad l.length c) txg note room vG vS)],D,O] fun u Bs=>(ey l k=none/\u = .int .i64 130/\Bs=[[(a,eK (.slice ad l.length c) txg note room vG vS)],D,O])\/∃o,ey l k=some o/\((cy l k z room=false/\u = .int .i64 3/\Bs=[[(a,eK (.slice ad l.length c) txg note room vG vS)],D,O])\/(cy l k z room=true/\u = .int .i64 0/\∃v l' ba c' D' E,l'=dF { Wx o z with b:=dH z o.b,v:=v } false l/\DE (O++E) l' /\
   az D' 65 130 (.slice ba l'.length c') l'.length (l'.flatMap au.lay)/\Bs=[[(a,eK (.slice ba l'.length c') txg note room vG vS)],D',O,E])):=by
 have hn:=cA k
 rw [decide_eq_true oZ] at hn
 have gh:=nW a l aQ txg note room vG vS ad c D hD k
 have bE:=Ai a l aQ txg note room vG vS ad c D O hD hO k z hz eN
 have bL:=fun o hv=>GY a l aQ txg note room vG vS ad c D hD o hv (fun x hx=>by obtain ⟨⟨ad,c,hv, -⟩, -⟩:=hO x hx;rw [hv];rfl)
 have jq:=hD
 have nJ:=aQ.jE
 refine st Tryz.func49 fun w0 => ?_
 refine gc hn ?_
 rintro _ _ ⟨rfl,rfl⟩
 refine gc gh ?_
 rintro _ _ ⟨⟨rfl,hn⟩ | ⟨i,o,rfl,hi,hn⟩,rfl⟩
 ·refine gz ?_
  exact fin (.inl ⟨hn,rfl,rfl⟩) aa
 ·have bo:=(List.getElem?_eq_some_iff.1 hi).1
  have qG:=List.mem_of_getElem? hi
  have AY:=aQ.sm o qG
  obtain ⟨⟨j2,cv,hv,RA⟩,Mf⟩:=hO o qG
  rw [hv] at Mf
  obtain ⟨gD,off,rfl⟩:=jq.addr oZ
  have hs:=ar au.aj l i o hi
  have Gy:=o.aj
  have fE:=o.bC (by rw [hv];rfl)
  have Xn:o.lay[1]? = some (.slice j2 o.b.length cv):=by rw [<-hv];exact au.rD _
  refine gc bE ?_
  rintro _ _ ⟨rfl,rfl⟩
  cases IU:cy l k z room with
  | false =>
   refine gz ?_
   exact fin (.inr ⟨o,hn,.inl ⟨rfl,rfl,rfl⟩⟩) aa
  | true =>
   have abC:=IT z o.b
   obtain ⟨nb,A0⟩:∃nb,nb=dH z o.b:=⟨_,rfl⟩
   have PL:nb.length=z:=by rw [A0];exact dQ ..
   rw [<-A0] at abC
   refine ga ?_;intro wV
   refine gm ?_;intro g11
   refine gy ?_
   have hT1:∀n,(xy o z n).lay[1]? = some (.slice j2 o.b.length cv):=fun n=>by rw [<-hv];exact au.rD _
   have hTl:∀n,(xy o z n).lay.length=130:=fun n=>au.aj _
   obtain ⟨oe,Wy⟩:∃oe,oe=Wx o z:=⟨_,rfl⟩
   refine gi ?_ ?_ <;> intro hsh
   case' refine_1 =>
    have he:Wx o z=xy o z 64:=if_pos oZ
    have hq:=Wy.trans he
    rw [show o.lay=(xy o z 0).lay by rw [PO]]
    refine gl [0,1,2,10,11] (fun (j:Nat)=>[(12,.int .i64 j)]) (fun j=>[[(wV,av (xy o z j).lay 65)]]) (fun j=>j<=64) (fun j=>64 - j) 0 oZ ?_
    intro j hj
    have hTj:=hTl j
    refine gi ?_ ?_ <;> intro bh
    ·have abG:j<64:=by omega
     refine gi ?_ ?_ <;> intro hc
     ·have e:=abD (o:=o) (z:=z) abG oZ
      have hT2:((xy o z j).lay.set (66+j) (.bool false)).length=130:=by rw [List.length_set];exact hTj
      refine gn ?_
      rw [e]
      exact ⟨j+1,by omega,by omega,aq,_,aa⟩
     ·refine gi ?_ ?_ <;> intro hc2
      ·have e:=abE (o:=o) (z:=z) abG oZ oZ
       refine gn ?_
       rw [e]
       exact ⟨j+1,by omega,by omega,aq,_,aa⟩
      ·have e:=abF (o:=o) (z:=z) (n:=j) oZ
       refine gn ?_
       rw [e]
       exact ⟨j+1,by omega,by omega,aq,_,aa⟩
    obtain rfl:j=64:=by omega
    rw [<-hq]
   case' refine_2 =>
    have he:Wx o z=o:=if_neg oZ
    have hq:=Wy.trans he
    rw [show o.lay=oe.lay by rw [hq]]
   all_goals
    have Jl:=oe.aj
    have e1:oe.lay.set 1 (.slice (some ⟨g11,0,none⟩) z z)=({ oe with b:=nb,v:=.slice (some ⟨g11,0,none⟩) z z }:au).lay:=by rw [au.TW,<-au.Ww _ nb]
    have hpj:=bL { oe with b:=nb,v:=.slice (some ⟨g11,0,none⟩) z z } rfl
    have aec:=({ oe with b:=nb,v:=.slice (some ⟨g11,0,none⟩) z z }:au).aj
    refine go ?_
    rw [e1]
    refine gc hpj ?_
    rintro _ _ ⟨ba,c',D',eo,rfl⟩
    refine gz ?_
    refine fin (.inr ⟨_,hn,.inr ⟨rfl,rfl,.slice (some ⟨g11,0,none⟩) z z,_,ba,c',D',[(g11,av (ak nb) 5)],by rw [Wy,A0],fun q hq => ?_,eo,rfl⟩⟩) aa
    rcases kO hq with rfl | hq
    ·simp only [PL]
     exact ⟨⟨_,z,rfl,Nat.le_refl _⟩,(aw (by rw [ai,PL,Nat.mul_one]) (aK _) oZ z).sub fun y hy=>List.mem_append_right _ hy⟩
    ·exact ⟨(hO q hq).1,(hO q hq).2.sub fun y hy=>List.mem_append_left _ hy⟩
end
end Go.Proofs.YtcfioaeamfappaaGreatDoor
namespace Go.Sl
theorem sy {L:List au}{r:List Value}{i:Nat}{o:au}(h:L[i]? = some o){j:Nat}{v:Value}(hv:o.lay[j]? = some v):(L.flatMap au.lay++r)[i*130+j]? = some v:=by
 have hs:=ar au.aj L i o h j v hv
 rw [List.getElem?_append_left (List.getElem?_eq_some_iff.1 hs).1]
 exact hs
theorem iX {r:List Value}{j:Nat}{v:Value}{o o':au}(hj:j<130)(e:o.lay.set j v=o'.lay):∀ {L:List au} {i:Nat},L[i]? = some o->(L.flatMap au.lay++r).set (i*130+j) v=(L.set i o').flatMap au.lay++r
 | [],i,h=>by simp at h
 | x :: l,0,h=>by
  have:x=o:=by simpa using h
  subst this
  rw [Nat.zero_mul,Nat.zero_add,List.set_cons_zero,List.flatMap_cons,List.flatMap_cons,List.append_assoc,List.append_assoc,List.set_append_left _ _ (by rw [au.aj];exact hj),e]
 | x :: l,i+1,h=>by
  have ih:=iX (r:=r) hj e (L:=l) (i:=i) (by simpa using h)
  rw [List.set_cons_succ,List.flatMap_cons,List.flatMap_cons,List.append_assoc,List.append_assoc,<-ih,List.set_append_right _ _ (by rw [au.aj];omega),au.aj,show (i+1)*130+j - 130=i*130+j by omega]
theorem fu {x:List UInt8}:bp x=true↔∀y∈x,y=0:=by
 unfold bp
 rw [decide_eq_true_iff,List.eq_replicate_iff]
 simp
theorem Ao (L:List au)(r:List Value):(L.flatMap au.lay++r).length=L.length*130+r.length:=by rw [List.length_append,fL au.aj]
end Go.Sl
namespace Go.Proofs.YtcfioaeamfappaaGreatDoor
open Go.Sl
set_option maxRecDepth 10000
set_option maxHeartbeats 4000000
def IV (D:Chunk)(v:Value)(n:Nat)(xs:List Value):Prop:=Rd D 130 v n xs/\(n=0\/∃g c r,v = .slice (some ⟨g,0,none⟩) n c/\D=[(g,av (xs++r) 65)])
theorem IV.of {D:Chunk}{v:Value}{n:Nat}{xs:List Value}(h:az D 65 130 v n xs):IV D v n xs:=by
 refine ⟨h.rd, ?_⟩
 rcases h.2.2 with ⟨-,h, -⟩ | ⟨g,c,r,h1,h2, -⟩
 ·exact .inl h
 ·exact .inr ⟨g,c,r,h1,h2⟩
theorem K4 (v:Value)(O:Chunk)(b:List UInt8)(n:Nat)(hb:b.length=n)(hR:Rd O 1 v n (ak b)):Ct 117 [v] [O] fun u Bs=>u = .bool (bp b)/\Bs=[O]:=by
 obtain ⟨ad,c,rfl⟩:=hR.slice
 have FY:=hR.2.2.1
 simp only [maxLen] at FY
 refine st Tryz.func117 fun w0 => ?_
 refine gl [0] (fun (i:Nat)=>[(3,.int .i64 i)]) (fun _=>[]) (fun i=>i<=n/\∀x∈b.take i,x=0) (fun i=>n - i) 0 ⟨by omega,by simp⟩ ?_
 rintro i ⟨hi,h0⟩
 refine gi ?_ ?_ <;> intro bh
 ·have bo:i<b.length:=by omega
  obtain ⟨g,o,rfl⟩:=hR.addr oZ
  have hx:b[i]? = some b[i]:=List.getElem?_eq_getElem bo
  refine gi ?_ ?_ <;> intro eP
  ·have e:bp b=false:=by
    rw [Bool.eq_false_iff]
    intro hc
    have:=(fu.1 hc) b[i] (List.getElem_mem _)
    rw [this] at eP
    simp at eP
   rw [e]
   refine gz ?_
   exact fin ⟨rfl,rfl⟩ aa
  ·have hz:b[i]=0:=by
    have:b[i].toNat=0:=by simpa using eP
    exact UInt8.toNat_inj.1 (by simpa using this)
   refine gn ?_
   refine ⟨i+1,⟨by omega,fun x hx => ?_⟩,by omega,aq,_,aa⟩
   rw [aG b bo] at hx
   rcases List.mem_append.1 hx with hx | hx
   ·exact h0 x hx
   ·rw [List.mem_singleton.1 hx];exact hz
 ·obtain rfl:i=n:=by omega
  rw [List.take_of_length_le oZ] at h0
  have e:bp b=true:=fu.2 h0
  rw [e]
  refine gz ?_
  exact fin ⟨rfl,rfl⟩ aa
end Go.Proofs.YtcfioaeamfappaaGreatDoor
