/-
  Texts put together (13).
-/
import Derived.Test.YteldablklnfblaaGreatDoorZTopTwice12
namespace Go.Sl
def wx (b:Nat×List UInt8)(s:eG):Nat×List UInt8:=if gB s&&decide (b.1<fv s) then (fv s,Ks s) else b
def qh (R:Rk)(ls:List (Option Lv))(k j:Nat):Nat×List UInt8:=(ls.take j).foldl (fun b o=>match o with | some x=>wx b (R.now x.i (18+k)) | none=>b) (0,List.replicate 88 0)
def tO (R:Rk)(ls:List (Option Lv))(k:Nat):List UInt8:=if R.off then List.replicate 88 0 else (qh R ls k ls.length).2
theorem wy {R:Rk}{ls:List (Option Lv)}{k j:Nat}{x:Lv}(h:ls[j]? = some (some x)):qh R ls k (j+1)=wx (qh R ls k j) (R.now x.i (18+k)):=by
 obtain ⟨jh,he⟩:=List.getElem?_eq_some_iff.1 h
 unfold qh
 rw [List.take_succ_eq_append_getElem jh,he,List.foldl_append];rfl
theorem yH {R:Rk}{ls:List (Option Lv)}{k:Nat}(h:∀x,some x∈ls->(R.now x.i (18+k)).length=128):∀j,(qh R ls k j).2.length=88:=by
 intro j
 unfold qh
 have:∀(l:List (Option Lv)) (b:Nat×List UInt8),(∀x,some x∈l->(R.now x.i (18+k)).length=128)->b.2.length=88->(l.foldl (fun b o=>match o with | some x=>wx b (R.now x.i (18+k)) | none=>b) b).2.length=88:=by
  intro l
  induction l with
  | nil=>intro b _ hb;exact hb
  | cons o l ih =>
   intro b hl hb
   rw [List.foldl_cons]
   refine ih _ (fun x hx=>hl x (List.mem_cons_of_mem _ hx)) ?_
   rcases o with _ | x
   ·exact hb
   ·simp only [wx]
    split
    ·exact zZ (hl x (List.mem_cons_self ..))
    ·exact hb
 exact this _ _ (fun x hx=>h x (List.mem_of_mem_take hx)) (by simp)
def ot (s:List UInt8)(o:Nat)(b:List UInt8):List UInt8:=s.take o++b.take (min b.length (88 - o))++s.drop (o+min b.length (88 - o))
theorem yI {s b:List UInt8}{o:Nat}(hs:s.length=88)(ho:o<88):(ot s o b).length=88:=by simp [ot,hs];omega
def jM (ls:List (Option Lv))(k no:Nat)(s:List UInt8)(i:Nat):List Ev:=match ls[i]? with
 | some (some x)=>fT x.i (18+k) [iZ no s]
 | _=>[]
theorem Ej (ls:List (Option Lv))(k no:Nat)(s:List UInt8)(i:Nat):(jM ls k no s i).length<=1:=by
 unfold jM;split
 ·rw [fu];simp
 ·simp
def bP (ls:List (Option Lv)):Nat->Rk->Nat->Nat->List UInt8->Rk×Nat
 | 0,R,no,_,_=>(R,no)
 | f+1,R,no,at_,b=>if b=[] then (R,no) else
  let R':=R.run (upto (jM ls (at_ / 88) no (ot (tO R ls (at_ / 88)) (at_ % 88) b)) ls.length)
  if R'.off then (R',no) else bP ls f R' (no+1) (at_+min b.length (88 - at_ % 88)) (b.drop (min b.length (88 - at_ % 88)))
theorem yJ (ls:List (Option Lv)):∀(f f':Nat) (R:Rk) (no at_:Nat) (b:List UInt8),b.length<=f->b.length<=f'->bP ls f R no at_ b=bP ls f' R no at_ b
 | 0,0,_,_,_,_,_,_=>rfl
 | 0,f'+1,R,no,at_,b,h,_=>by
  obtain rfl:=List.eq_nil_of_length_eq_zero (by omega:b.length=0)
  simp [bP]
 | f+1,0,R,no,at_,b,_,h=>by
  obtain rfl:=List.eq_nil_of_length_eq_zero (by omega:b.length=0)
  simp [bP]
 | f+1,f'+1,R,no,at_,b,h,h'=>by
  unfold bP
  by_cases hb:b=[]
  ·rw [if_pos hb,if_pos hb]
  ·rw [if_neg hb,if_neg hb]
   have:0<b.length:=List.length_pos_iff.2 hb
   have hd:(b.drop (min b.length (88 - at_ % 88))).length+1<=b.length:=by rw [List.length_drop];omega
   simp only
   rw [yJ ls f f' _ _ _ _ oZ oZ]
theorem Us {R:Rk}{ls:List (Option Lv)}{k:Nat}(h:∀x,some x∈ls->(R.now x.i (18+k)).length=128):(tO R ls k).length=88:=by
 unfold tO;split
 ·simp
 ·exact yH h _
end Go.Sl
namespace Go.Proofs.YteldablklnfblaaGreatDoor
open Go.Sl
set_option maxRecDepth 10000
set_option maxHeartbeats 4000000
section
variable (T:TypeId)(fr:Nat×Nat)(p:Nat)(qs:List Nat)(t pool:Nat)(tp:Tp)(pr:Bool)(n:Nat)(ls:List (Option Lv))(no:Nat)(V:Chunk)(hV:jb t pool tp pr n ls no V)(ok:dK tp pr n ls.length)(hall:∀x∈ls,x≠none)
include hV ok hall
theorem Ek (R:Rk)(C:Chunk)(hC:bq p qs R C)(ho:dJ qs R n ls)(k:Nat)(hk:k<256):Ct 165 [ptr t,.int .i64 k] [gK T fr,C,V] fun u Bs=>∃g,u = .slice (some ⟨g,0,none⟩) 88 88/\Bs=[[(g,ax (ak (tO R ls k)) 5)],gK T fr,C,V]:=by
 have ha:=GW t pool tp pr n ls no V hV ok hall
 have j9:=ok.hw
 have hn:=ok.hn
 have fH:∀x,some x∈ls->(R.now x.i (18+k)).length=128:=fun x hx=>by
  obtain ⟨o1,o2,o3⟩:=ho x hx
  exact (kK hC.ok (i:=x.i) (a:=18+k) oZ).2
 have hlen:=yH fH
 obtain ⟨F,hF⟩:∃F:Nat->Nat×List UInt8,F=fun j=>if R.off then (0,List.replicate 88 0) else qh R ls k j:=⟨_,rfl⟩
 have hF0:F 0=(0,List.replicate 88 0):=by rw [hF];simp only;split <;> rfl
 have hFl:∀j,(F j).2.length=88:=fun j=>by rw [hF];simp only;split <;> first | exact hlen j | simp
 have hFe:(F ls.length).2=tO R ls k:=by rw [hF];unfold tO;simp only;split <;> rfl
 rw [<-hFe]
 refine st Tryz.func165 fun w0 => ?_
 refine gm ?_;intro g
 rw [show List.replicate 88 (Value.int .u8 0)=ak (F 0).2 by rw [hF0];exact OJ 88]
 refine gc ha ?_
 rintro _ _ ⟨Ca,WY,rfl⟩
 obtain ⟨m,M,fV,cT,DT,dQ,cI,DI,jX,cL,DL,oH,cl,Dl,vD,DD,L,hT,hI,xb,hl,hM,hL,rfl⟩:=hV
 obtain ⟨Wz,ca,rfl⟩:=WY.slice
 have har:=WY.rd
 obtain ⟨ga_,oa,rfl⟩:=har.addr oZ
 refine gs ?_
 refine gl [1,5,14,15] (fun ((j,z):Nat×Nat)=>[(16,.int .i64 j),(6,.int .u64 z)]) (fun (j,_)=>[[(g,ax (ak (F j).2) 5)]]) (fun (j,z)=>j<=ls.length/\z=(F j).1) (fun (j,_)=>ls.length - j) (0,0) ⟨by omega,by rw [hF0]⟩ ?_
 rintro ⟨j,z⟩ ⟨hj,rfl⟩
 refine gi ?_ ?_ <;> intro bo
 ·obtain ⟨oy,hy⟩:=eB (l:=ls) (i:=j) oZ
  rcases oy with _ | y
  ·exact absurd rfl (hall _ (List.mem_of_getElem? hy))
  obtain ⟨o1,o2,o3⟩:=ho y (List.mem_of_getElem? hy)
  have bV:(ls.map iw)[j]? = some (ptr y.a):=by rw [List.getElem?_map,hy];rfl
  have qN:R.off=false->F (j+1)=wx (F j) (R.now y.i (18+k)):=fun h=>by rw [hF];simp only [h];exact wy hy
  have hny:R.off=true->F (j+1)=F j:=fun h=>by rw [hF];simp only [h];rfl
  have hsy:=fH y (List.mem_of_getElem? hy)
  have hFj:=hFl j
  obtain ⟨A,L1,B,pU,rfl⟩:=hL.at hy
  refine gs ?_
  refine gc (IE T fr p qs R C hC y.i y.q n y.a _ L1 pU o1 o2 o3 k hk oZ) ?_
  rintro _ _ (⟨dI,rfl,rfl⟩ | ⟨dI,jk,rfl,rfl⟩ | ⟨dI,jk,g2,rfl,rfl⟩)
  ·have e:=hny dI
   refine gn ?_
   exact ⟨(j+1,(F j).1),⟨by omega,by rw [e]⟩,by simp only;omega,aq,_,by simp only [e];exact aa⟩
  ·have e:F (j+1)=F j:=by rw [qN dI,wx,jk];rfl
   refine gn ?_
   exact ⟨(j+1,(F j).1),⟨by omega,by rw [e]⟩,by simp only;omega,aq,_,by simp only [e];exact aa⟩
  ·have hb:=zZ hsy
   generalize R.now y.i (18+k)=s at *
   refine gi ?_ ?_ <;> intro ic
   ·have e:F (j+1)=(fv s,Ks s):=by rw [qN dI,wx,jk,decide_eq_true (show (F j).1<fv s by omega)];rfl
    have zV:(ak (F j).2).take 0++(ak (Ks s)).take (min 88 88)++(ak (F j).2).drop (0+min 88 88)=ak (F (j+1)).2:=by
     rw [Nat.min_self,List.take_zero,List.nil_append,List.take_of_length_le (by rw [ai];omega),List.drop_of_length_le (by rw [ai];omega),List.append_nil,e]
    have hg2:Rd [(g2,ax (ak (Ks s)) 5)] 1 (.slice (some ⟨g2,0,none⟩) 88 88) 88 (ak (Ks s)):=av (by rw [ai,hb]) (aK _) oZ _
    refine gy ?_
    refine gn ?_
    exact ⟨(j+1,fv s),⟨by omega,by rw [e]⟩,by simp only;omega,aq,_,aa⟩
   ·have e:F (j+1)=F j:=by rw [qN dI,wx,jk,decide_eq_false (show ¬(F j).1<fv s by omega)];rfl
    refine gn ?_
    exact ⟨(j+1,(F j).1),⟨by omega,by rw [e]⟩,by simp only;omega,aq,_,by simp only [e];exact aa⟩
 ·obtain rfl:j=ls.length:=by omega
  refine gz ?_
  exact fin ⟨g,rfl,rfl⟩ aa
end
theorem I7 (a b:Nat)(h:a+b<=22528):Ct 164 [.int .i64 a,.int .i64 b] [] fun u Bs=>u = .bool true/\Bs=[]:=by
 have hs:IntKind.i64.wrap (22528 - (a:Int))=((22528 - a:Nat):Int):=by rw [IntWalk.i64_in _ oZ];omega
 refine st Tryz.func164 fun w0 => ?_
 refine gz ?_
 rw [decide_eq_true oZ]
 exact fin ⟨rfl,rfl⟩ aa
section
variable (T:TypeId)(fr:Nat×Nat)(p:Nat)(qs:List Nat)(t pool:Nat)(tp:Tp)(pr:Bool)(n:Nat)(ls:List (Option Lv))(no:Nat)(V:Chunk)(hV:jb t pool tp pr n ls no V)(ok:dK tp pr n ls.length)(hall:∀x∈ls,x≠none)
include hV ok hall
theorem wz (R0:Rk)(C:Chunk)(hC:bq p qs R0 C)(ho:dJ qs R0 n ls)(at_:Nat)(b0:List UInt8)(m:Nat)(hm:b0.length=m)(ha:at_+m<=22528)(eD:1<=no/\no+m<=281474976710656)(hw:R0.ws.length+5*m<=900000000000)(O:Chunk)(IK:Option Addr)(co:Nat)(hO:Rd O 1 (.slice IK m co) m (ak b0))(Un:m<=co) :
  Ct 116 [ptr t,.int .i64 at_,.slice IK m co] [gK T fr,C,V,O] fun u Bs=>∃C' V',u = .int .i64 (if b0≠[]/\(bP ls m R0 no at_ b0).1.off=true then 5 else 0)/\bq p qs (bP ls m R0 no at_ b0).1 C'/\jb t pool tp pr n ls (bP ls m R0 no at_ b0).2 V'/\Bs=[gK T fr,C',V',O]:=by
 have j9:=ok.hw
 have hn:=ok.hn
 obtain ⟨dm,M,fV,cT,DT,dQ,cI,DI,jX,cL,DL,oH,cl,Dl,vD,DD,L,hT,hI,xb,hl,hM,hL,rfl⟩:=hV
 have hV:∀no,jb t pool tp pr n ls no ([(t,Dx pool (.slice fV 1 cT) (.slice dQ 1 cI) (.slice jX 1 cL) vD no)]++(DT++(DI++(DL++(Dl++(DD++(M++L))))))):=fun no=>⟨dm,M,fV,cT,DT,dQ,cI,DI,jX,cL,DL,oH,cl,Dl,vD,DD,L,hT,hI,xb,hl,hM,hL,rfl⟩
 obtain ⟨res,El⟩:∃res,res=bP ls m R0 no at_ b0:=⟨_,rfl⟩
 rw [<-El]
 refine st Tryz.func116 fun w0 => ?_
 refine gs ?_
 refine gc (I7 at_ m ha) ?_
 rintro _ _ ⟨rfl,rfl⟩
 refine gl [0] (fun ((_,_,at_,_,_,m,ad,c):Rk×Nat×Nat×List UInt8×Chunk×Nat×Option Addr×Nat)=>[(1,.int .i64 at_),(2,.slice ad m c)]) (fun (_,no,_,_,C,_,_,_)=>[C,[(t,Dx pool (.slice fV 1 cT) (.slice dQ 1 cI) (.slice jX 1 cL) vD no)]]) (fun (R,no,at_,b,C,m,ad,c)=>res=bP ls m R no at_ b/\b.length=m/\at_+m<=22528/\(1<=no/\no+m<=281474976710656)/\R.ws.length+5*m<=900000000000/\bq p qs R C/\dJ qs R n ls/\Rd O 1 (.slice ad m c) m (ak b)/\m<=c/\(b0=[]->b=[])/\(b=[]->b0≠[]->R.off=false)) (fun (_,_,_,_,_,m,_)=>m) (R0,no,at_,b0,C,m,IK,co) ⟨El,hm,ha,eD,hw,hC,ho,hO,Un,(fun h=>h),(fun h h'=>absurd h h')⟩ ?_
 rintro ⟨R,no,at_,b,C,m,ad,c⟩ ⟨El,hm,ha,eD,hw,hC,ho,hO,Gm,I8,jy⟩
 refine gi ?_ ?_ <;> intro bo
 ·have W4:b≠[]:=fun h=>by rw [h] at hm;simp at hm;omega
  have abP:b0≠[]:=fun h=>W4 (I8 h)
  obtain ⟨m',rfl⟩:∃m',m=m'+1:=⟨m - 1,by omega⟩
  obtain ⟨gO,oO,rfl⟩:=hO.addr oZ
  have hk:at_ / 88<256:=by omega
  have fH:∀x,some x∈ls->(R.now x.i (18+at_ / 88)).length=128:=fun x hx=>by
   obtain ⟨o1,o2,o3⟩:=ho x hx
   exact (kK hC.ok (i:=x.i) (a:=18+at_ / 88) oZ).2
  have hSl:=Us fH
  have abQ:at_ % 88<88:=by omega
  obtain ⟨S,hS⟩:∃S,S=tO R ls (at_ / 88):=⟨_,rfl⟩
  have vg:=Ek T fr p qs t pool tp pr n ls no _ (hV no) ok hall R C hC ho (at_ / 88) hk
  rw [<-hS] at hSl vg
  have qO:(ot S (at_ % 88) b).length=88:=yI hSl abQ
  obtain ⟨X,hX⟩:∃X,X=ot S (at_ % 88) b:=⟨_,rfl⟩
  have zV:(ak S).take (at_ % 88)++(ak b).take (min (m'+1) (88 - at_ % 88))++(ak S).drop (at_ % 88+min (m'+1) (88 - at_ % 88))=ak X:=by
   rw [hX,ot,hm,aL,aL,aY,aE,aE]
  rw [<-hX] at qO
  have hSb:(ak S).length=88:=by rw [ai,hSl]
  obtain ⟨RX,hRX⟩:∃RX,RX=R.run (upto (jM ls (at_ / 88) no X) ls.length):=⟨_,rfl⟩
  have n8:res=if RX.off then (RX,no) else bP ls m' RX (no+1) (at_+min (m'+1) (88 - at_ % 88)) (b.drop (min (m'+1) (88 - at_ % 88))):=by
   rw [El,bP,if_neg W4];simp only [<-hS,<-hX,hm,<-hRX]
  have iM:∀k,(jM ls (at_ / 88) no X k).length<=1:=Ej ls _ _ _
  have ha:=GW t pool tp pr n ls no _ (hV no) ok hall
  refine gc vg ?_
  rintro _ _ ⟨g,rfl,rfl⟩
  refine gs ?_
  refine gv ?_
  refine gy ?_
  refine gc ha ?_
  rintro _ _ ⟨Ca,WY,rfl⟩
  obtain ⟨Wz,ca,rfl⟩:=WY.slice
  have har:=WY.rd
  obtain ⟨ga_,oa,rfl⟩:=har.addr oZ
  refine gs ?_
  refine gl [0,1,2,7,8,9,33,34] (fun ((j,z,_):Nat×Nat×Chunk)=>[(35,.int .i64 j),(10,.int .i64 z)]) (fun (_,_,C)=>[C]) (fun (j,z,C)=>j<=ls.length/\z=(if j=0 then 4 else 0)/\bq p qs (R.run (upto (jM ls (at_ / 88) no X) j)) C/\(0<j->(R.run (upto (jM ls (at_ / 88) no X) j)).off=false)) (fun (j,_)=>ls.length - j) (0,4,C) ⟨by omega,rfl,hC,(fun h=>by cases h)⟩ ?_
  rintro ⟨j,z,C⟩ ⟨hj,hz,hC,hjo⟩
  refine gi ?_ ?_ <;> intro pL
  ·obtain ⟨oy,hy⟩:=eB (l:=ls) (i:=j) oZ
   rcases oy with _ | y
   ·exact absurd rfl (hall _ (List.mem_of_getElem? hy))
   obtain ⟨o1,o2,o3⟩:=ho.run (upto (jM ls (at_ / 88) no X) j) y (List.mem_of_getElem? hy)
   have bV:(ls.map iw)[j]? = some (ptr y.a):=by rw [List.getElem?_map,hy];rfl
   have yo:=Rk.iL R (upto (jM ls (at_ / 88) no X) j)
   have zy:=cV iM j
   have Aa:jM ls (at_ / 88) no X j=fT y.i (18+at_ / 88) [iZ no X]:=by unfold jM;rw [hy]
   obtain ⟨A,L1,B,pU,rfl⟩:=hL.at hy
   have hgX:Rd [(g,ax (ak X) 5)] 1 (.slice (some ⟨g,0,none⟩) 88 88) 88 (ak X):=av (by rw [ai,qO]) (aK _) oZ _
   have nL:=OE T fr p qs _ C hC y.i y.q n y.a _ L1 pU o1 o2 o3 hn (at_ / 88) no X _ _ hk oZ qO hgX oZ
   rw [<-Aa,<-dP] at nL
   refine gs ?_
   refine gc nL ?_
   rintro _ _ ⟨C',rfl,bA,rfl⟩
   cases dI:(R.run (upto (jM ls (at_ / 88) no X) (j+1))).off with
   | true =>
    refine gz ?_
    have e:=jx dI (by omega:j+1<=ls.length)
    rw [<-hRX] at e
    have cw:res=(RX,no):=by rw [n8,if_pos (by rw [e];exact dI)]
    rw [cw,if_pos ⟨abP,by rw [e];exact dI⟩]
    exact fin ⟨C',_,rfl,by rw [e];exact bA,hV no,rfl⟩ aa
   | false =>
    refine gn ?_
    exact ⟨(j+1,0,C'),⟨by omega,by simp,bA,fun _=>dI⟩,by simp only;omega,aq,_,aa⟩
  ·obtain rfl:j=ls.length:=by omega
   rw [if_neg oZ] at hz
   subst hz
   have hjo:=hjo oZ
   have yo:=Rk.iL R (upto (jM ls (at_ / 88) no X) ls.length)
   have zy:=cV iM ls.length
   have Su:=ho.run (upto (jM ls (at_ / 88) no X) ls.length)
   rw [<-hRX] at hjo hC yo Su
   rw [if_neg (by rw [hjo];simp)] at n8
   obtain ⟨cc,hcc⟩:∃cc,cc=min (m'+1) (88 - at_ % 88):=⟨_,rfl⟩
   rw [<-hcc] at n8
   have af3:1<=cc/\cc<=m'+1:=by omega
   have s7:(b.drop cc).length=m'+1 - cc:=by rw [List.length_drop,hm]
   have ou:((ak b).drop (cc*1)).take ((m'+1 - cc)*1)=ak (b.drop cc):=by rw [Nat.mul_one,aY,Nat.mul_one,List.take_of_length_le (by rw [ai,s7];omega)]
   have W5:b.drop cc=[]->b0≠[]->RX.off=false:=fun _ _=>hjo
   have aep:b0=[]->b.drop cc=[]:=fun h=>absurd h abP
   rw [yJ ls m' (m'+1 - cc) _ _ _ _ oZ oZ] at n8
   rw [<-hcc]
   refine gw ?_;intro ry hR5
   refine gn ?_
   exact ⟨(RX,no+1,at_+cc,b.drop cc,C,m'+1 - cc,ry,c - cc),⟨n8,s7,by omega,by omega,by omega,hC,Su,hR5,by omega,aep,W5⟩,by simp only;omega,aq,_,aa⟩
 ·obtain rfl:b=[]:=List.eq_nil_of_length_eq_zero oZ
  have Km:res=(R,no):=by rw [El];cases m <;> simp [bP]
  have hz:¬(b0≠[]/\res.1.off=true):=fun ⟨h1,h2⟩=>by rw [Km,jy rfl h1] at h2;cases h2
  rw [if_neg hz,Km]
  refine gz ?_
  exact fin ⟨C,_,rfl,hC,hV no,rfl⟩ aa
end
end Go.Proofs.YteldablklnfblaaGreatDoor
namespace Go.Sl
theorem Em {α:Type}{f:Nat->List α}{s:Nat}:∀(n q:Nat) (a:Nat),q<=n->(∀k,(f k).length=s)->(((List.range' a n).flatMap f).drop (q*s))=(List.range' (a+q) (n - q)).flatMap f
 | n,0,a,_,_=>by simp
 | n+1,q+1,a,h,hs=>by
  rw [List.range'_succ,List.flatMap_cons,show (q+1)*s=(f a).length+q*s by rw [hs,Nat.add_mul];omega,<-List.drop_drop,List.drop_left,Em n q (a+1) oZ hs]
  congr 2 <;> omega
theorem Le {α:Type}{f:Nat->List α}{s n x c:Nat}(hs:∀k,(f k).length=s)(h0:0<s)(hx:x / s<n)(hc:c<=s - x % s):(((List.range n).flatMap f).drop x).take c=((f (x / s)).drop (x % s)).take c:=by
 have e:x=x / s*s+x % s:=by rw [Nat.mul_comm];exact (Nat.div_add_mod x s).symm
 have hm:=Nat.mod_lt x h0
 rw [List.range_eq_range']
 conv=>lhs;rw [e]
 rw [<-List.drop_drop,Em n (x / s) 0 oZ hs,Nat.zero_add]
 obtain ⟨r,hr⟩:∃r,n - x / s=r+1:=⟨n - x / s - 1,by omega⟩
 rw [hr,List.range'_succ,List.flatMap_cons,List.drop_append_of_le_length (by rw [hs];omega),List.take_append_of_le_length (by rw [List.length_drop,hs];omega)]
def aX (R:Rk)(ls:List (Option Lv)):List UInt8:=(List.range 256).flatMap (tO R ls)
theorem G9 {R:Rk}{ls:List (Option Lv)}(h:∀k,(tO R ls k).length=88):(aX R ls).length=22528:=by
 have:∀n a,((List.range' a n).flatMap (tO R ls)).length=n*88:=by
  intro n
  induction n with
  | zero=>intro a;rfl
  | succ n ih=>intro a;rw [List.range'_succ,List.flatMap_cons,List.length_append,h,ih];omega
 rw [aX,List.range_eq_range',this]
end Go.Sl
namespace Go.Proofs.YteldablklnfblaaGreatDoor
open Go.Sl
set_option maxRecDepth 10000
set_option maxHeartbeats 4000000
section
variable (T:TypeId)(fr:Nat×Nat)(p:Nat)(qs:List Nat)(t pool:Nat)(tp:Tp)(pr:Bool)(n:Nat)(ls:List (Option Lv))(no:Nat)(V:Chunk)(hV:jb t pool tp pr n ls no V)(ok:dK tp pr n ls.length)(hall:∀x∈ls,x≠none)
include hV ok hall
theorem yK (R:Rk)(C:Chunk)(hC:bq p qs R C)(ho:dJ qs R n ls)(at_ m:Nat)(ha:at_+m<=22528)(hS:∀k,(tO R ls k).length=88) :
  Ct 120 [ptr t,.int .i64 at_,.int .i64 m] [gK T fr,C,V] fun u Bs=>(R.off=true/\u = .tuple #[.slice none 0 0,.int .i64 5]/\Bs=[gK T fr,C,V]) \/
   (R.off=false/\∃ad c D,u = .tuple #[.slice ad m c,.int .i64 0]/\az D 5 1 (.slice ad m c) m (ak (((aX R ls).drop at_).take m))/\Bs=[D,gK T fr,C,V]):=by
 have hd:=Ui p qs t pool tp pr n ls no V hV ok hall R C hC ho
 refine st Tryz.func120 fun w0 => ?_
 refine gc (I7 at_ m ha) ?_
 rintro _ _ ⟨rfl,rfl⟩
 refine gc hd ?_
 rintro _ _ ⟨rfl,rfl⟩
 cases jy:R.off with
 | true =>
  refine gz ?_
  exact fin (.inl ⟨rfl,rfl,rfl⟩) aa
 | false =>
  refine adj ?_;intro g0 C0 hB
  refine gl [0,2] (fun ((d,v,_):Nat×Value×Chunk)=>[(1,.int .i64 (at_+d:Nat)),(8,v)]) (fun (_,_,D)=>[D]) (fun (d,v,D)=>d<=m/\az D 5 1 v d (ak (((aX R ls).drop at_).take d))) (fun (d,_)=>m - d) (0,.slice (some ⟨g0,0,none⟩) 0 m,C0) ⟨by omega,by rw [List.take_zero];exact hB⟩ ?_
  rintro ⟨d,v,D⟩ ⟨hdm,hD⟩
  obtain ⟨j8,cv,rfl⟩:=hD.slice
  refine gi ?_ ?_ <;> intro bo
  ·have hk:(at_+d) / 88<256:=by omega
   have abQ:(at_+d) % 88<88:=by omega
   have vg:=Ek T fr p qs t pool tp pr n ls no V hV ok hall R C hC ho ((at_+d) / 88) hk
   have hSl:=hS ((at_+d) / 88)
   have O3:∀c,c<=88 - (at_+d) % 88->(((aX R ls).drop at_).drop d).take c=((tO R ls ((at_+d) / 88)).drop ((at_+d) % 88)).take c:=fun c hc=>by
    rw [List.drop_drop];exact Le hS oZ hk hc
   generalize tO R ls ((at_+d) / 88)=S at *
   refine gc vg ?_
   rintro _ _ ⟨g,rfl,rfl⟩
   have hg:Rd [(g,ax (ak S) 5)] 1 (.slice (some ⟨g,0,none⟩) 88 88) 88 (ak S):=av (by rw [ai,hSl]) (aK _) oZ _
   have ou:((ak S).drop ((at_+d) % 88*1)).take ((88 - (at_+d) % 88)*1)=ak (S.drop ((at_+d) % 88)):=by rw [Nat.mul_one,aY,Nat.mul_one,List.take_of_length_le (by rw [ai,List.length_drop];omega)]
   refine gw ?_;intro fL zK
   obtain ⟨cc,hcc⟩:∃cc,cc=min (88 - (at_+d) % 88) (m - d):=⟨_,rfl⟩
   refine go ?_
   rw [show min (((88 - (at_+d) % 88:Nat)):Int) ((m - d:Nat):Int)=((cc:Nat):Int) by omega]
   have YY:((ak (S.drop ((at_+d) % 88))).drop (0*1)).take ((cc - 0)*1)=ak ((S.drop ((at_+d) % 88)).take cc):=by rw [Nat.zero_mul,List.drop_zero,Nat.mul_one,Nat.sub_zero,aL]
   have dE:cc - 0=cc:=rfl
   refine gw ?_;intro pN hR4
   refine gp ?_;intro ry c5 C5 hC5
   have rO:((aX R ls).drop at_).take (d+cc)=((aX R ls).drop at_).take d++(S.drop ((at_+d) % 88)).take cc:=by
    rw [<-O3 cc oZ,<-List.take_add]
   have he:at_+d+cc=at_+(d+cc):=by omega
   refine go ?_
   rw [he]
   refine gn ?_
   exact ⟨(d+cc,_,C5),⟨by omega,by rw [rO,aE];exact hC5⟩,by simp only;omega,aq,_,aa⟩
  ·obtain rfl:d=m:=by omega
   refine gz ?_
   exact fin (.inr ⟨rfl,j8,cv,D,rfl,hD,rfl⟩) aa
end
theorem yL (a b:Int)(hb:b<=9223372036854775807)(h:¬(0<=a/\0<=b/\a+b<=22528)):Ct 164 [.int .i64 a,.int .i64 b] [] fun u Bs=>u = .bool false/\Bs=[]:=by
 refine st Tryz.func164 fun w0 => ?_
 refine gg ?_ ?_ <;> intro h1
 ·refine gg ?_ ?_ <;> intro h2
  ·refine gg ?_ ?_ <;> intro h3
   ·have hs:IntKind.i64.wrap (22528 - a)=22528 - a:=by rw [IntWalk.i64_in _ oZ]
    refine gz ?_
    rw [decide_eq_false oZ]
    exact fin ⟨rfl,rfl⟩ aa
   ·refine gz ?_
    exact fin ⟨rfl,rfl⟩ aa
  ·refine gz ?_
   exact fin ⟨rfl,rfl⟩ aa
 ·refine gz ?_
  exact fin ⟨rfl,rfl⟩ aa
theorem En (s tk:Nat)(vA:Value)(ra rd txg note:Nat)(e:Int)(h:e≠5):Ct 115 [ptr s,.int .i64 e] [[(s,bR tk vA ra rd txg note)]] fun u Bs=>u = .int .i64 e/\Bs=[[(s,bR tk vA ra rd txg note)]]:=by
 refine st Tryz.func115 fun w0 => ?_
 refine gz ?_
 exact fin ⟨rfl,rfl⟩ aa
section
variable (s t:Nat)(vA:Value)(ra rd txg note:Nat)
theorem Lf (a:Int)(ad:Option Addr)(m c:Nat)(hm:m<=4611686018427387904)(h:¬(0<=a/\a+m<=22528)):Ct 116 [ptr t,.int .i64 a,.slice ad m c] [] fun u Bs=>u = .int .i64 1/\Bs=[]:=by
 refine st Tryz.func116 fun w0 => ?_
 refine gc (yL a m oZ oZ) ?_
 rintro _ _ ⟨rfl,rfl⟩
 refine gz ?_
 exact fin ⟨rfl,rfl⟩ aa
theorem Lg (a m:Int)(hm:m<=9223372036854775807)(h:¬(0<=a/\0<=m/\a+m<=22528)):Ct 120 [ptr t,.int .i64 a,.int .i64 m] [] fun u Bs=>u = .tuple #[.slice none 0 0,.int .i64 1]/\Bs=[]:=by
 refine st Tryz.func120 fun w0 => ?_
 refine gc (yL a m hm h) ?_
 rintro _ _ ⟨rfl,rfl⟩
 refine gz ?_
 exact fin ⟨rfl,rfl⟩ aa
theorem Lh (a:Int)(ad:Option Addr)(m c:Nat)(hm:m<=4611686018427387904)(h:¬(0<=a/\a+m<=22528)):Ct 52 [ptr s,.int .i64 a,.slice ad m c] [[(s,bR t vA ra rd txg note)]] fun u Bs=>u = .int .i64 1/\Bs=[[(s,bR t vA ra rd txg note)]]:=by
 refine st Tryz.func52 fun w0 => ?_
 refine gc (Lf t a ad m c hm h) ?_
 rintro _ _ ⟨rfl,rfl⟩
 refine gc (En s t vA ra rd txg note 1 oZ) ?_
 rintro _ _ ⟨rfl,rfl⟩
 refine gz ?_
 exact fin ⟨rfl,rfl⟩ aa
theorem Li (a m:Int)(hm:m<=9223372036854775807)(h:¬(0<=a/\0<=m/\a+m<=22528)):Ct 61 [ptr s,.int .i64 a,.int .i64 m] [[(s,bR t vA ra rd txg note)]] fun u Bs=>u = .tuple #[.slice none 0 0,.int .i64 1]/\Bs=[[(s,bR t vA ra rd txg note)]]:=by
 refine st Tryz.func61 fun w0 => ?_
 refine gc (Lg t a m hm h) ?_
 rintro _ _ ⟨rfl,rfl⟩
 refine gc (En s t vA ra rd txg note 1 oZ) ?_
 rintro _ _ ⟨rfl,rfl⟩
 refine gz ?_
 exact fin ⟨rfl,rfl⟩ aa
variable (T:TypeId)(fr:Nat×Nat)(p:Nat)(qs:List Nat)(pool:Nat)(tp:Tp)(pr:Bool)(n:Nat)(ls:List (Option Lv))(no:Nat)(V:Chunk)(hV:jb t pool tp pr n ls no V)(ok:dK tp pr n ls.length)(hall:∀x∈ls,x≠none)(R:Rk)(C:Chunk)(hC:bq p qs R C)(ho:dJ qs R n ls)
include hV ok hall hC ho
theorem Ut (a:Nat)(b:List UInt8)(m:Nat)(hm:b.length=m)(ha:a+m<=22528)(eD:1<=no/\no+m<=281474976710656)(hw:R.ws.length+5*m<=900000000000)(O:Chunk)(ad:Option Addr)(c:Nat)(hO:Rd O 1 (.slice ad m c) m (ak b))(hc:m<=c)(jy:(bP ls m R no a b).1.off=false) :
  Ct 52 [ptr s,.int .i64 a,.slice ad m c] [[(s,bR t vA ra rd txg note)],gK T fr,C,V,O] fun u Bs=>u = .int .i64 0/\∃C' V',bq p qs (bP ls m R no a b).1 C'/\jb t pool tp pr n ls (bP ls m R no a b).2 V'/\Bs=[[(s,bR t vA ra rd txg note)],gK T fr,C',V',O]:=by
 have h:=wz T fr p qs t pool tp pr n ls no V hV ok hall R C hC ho a b m hm ha eD hw O ad c hO hc
 rw [if_neg (fun h=>by rw [jy] at h;exact absurd h.2 dZ)] at h
 refine st Tryz.func52 fun w0 => ?_
 refine gc h ?_
 rintro _ _ ⟨C',V',rfl,bA,R6,rfl⟩
 refine gc (En s t vA ra rd txg note 0 oZ) ?_
 rintro _ _ ⟨rfl,rfl⟩
 refine gz ?_
 exact fin ⟨rfl,C',V',bA,R6,rfl⟩ aa
theorem Uu (jy:(R.run (iH ls)).off=false):Ct 55 [ptr s] [[(s,bR t vA ra rd txg note)],C,V] fun u Bs=>u = .int .i64 0/\∃C',bq p qs (R.run (iH ls)) C'/\Bs=[[(s,bR t vA ra rd txg note)],C',V]:=by
 have h:=p3 (p:=p) (qs:=qs) (t:=t) (hV:=hV) (ok:=ok) (R:=R) (C:=C) (hC:=hC) (ho:=ho) (hall:=hall)
 rw [jy] at h
 refine st Tryz.func55 fun w0 => ?_
 refine gc h ?_
 rintro _ _ ⟨C',rfl,bA,rfl⟩
 refine gc (En s t vA ra rd txg note 0 oZ) ?_
 rintro _ _ ⟨rfl,rfl⟩
 refine gz ?_
 exact fin ⟨rfl,C',bA,rfl⟩ aa
theorem Uv (bZ:R.off=false)(a m:Nat)(ha:a+m<=22528)(hS:∀k,(tO R ls k).length=88):Ct 61 [ptr s,.int .i64 a,.int .i64 m] [[(s,bR t vA ra rd txg note)],gK T fr,C,V] fun u Bs=>∃ad c D,u = .tuple #[.slice ad m c,.int .i64 0]/\az D 5 1 (.slice ad m c) m (ak (((aX R ls).drop a).take m))/\Bs=[D,[(s,bR t vA ra rd txg note)],gK T fr,C,V]:=by
 have h:=yK T fr p qs t pool tp pr n ls no V hV ok hall R C hC ho a m ha hS
 refine st Tryz.func61 fun w0 => ?_
 refine gc h ?_
 rintro _ _ (⟨hx, -⟩ | ⟨-,ad,c,D,rfl,hD,rfl⟩)
 ·rw [bZ] at hx;cases hx
 refine gc (En s t vA ra rd txg note 0 oZ) ?_
 rintro _ _ ⟨rfl,rfl⟩
 refine gz ?_
 exact fin ⟨ad,c,D,rfl,hD,rfl⟩ aa
end
end Go.Proofs.YteldablklnfblaaGreatDoor
namespace Go.Sl
theorem qi {pr:Bool}{w b:Nat}(hw:1<=w/\w<=5)(hp:pr=true->3<=w)(hb:b<=1024):aN pr w b<=aN pr w 1024:=by
 have h:w=1\/w=2\/w=3\/w=4\/w=5:=by omega
 cases pr
 ·simp only [aN,Bool.false_eq_true,if_false,aD];omega
 ·have:=hp rfl
  rcases h with rfl | rfl | rfl | rfl | rfl
  ·omega
  ·omega
  ·simp only [aN,if_true,dG,aD];omega
  ·simp only [aN,if_true,dG,aD];omega
  ·simp only [aN,if_true,dG,aD];omega
end Go.Sl
namespace Go.Proofs.YteldablklnfblaaGreatDoor
open Go.Sl
set_option maxRecDepth 10000
set_option maxHeartbeats 4000000
structure OQM (Ms:List Chunk)(o:aA):Prop
section
variable {X:Cx}{f:Fx}{k:Kt}{e:Env}{Ls:List Chunk}{ops:List Oper}
theorem WS.Uw {Ms:List Chunk}{o:aA}(_:OQM Ms o){id:Nat}(hm:X.P.follows .mixedOrders=true)(hB:(ops.all bY&&lh ops.toArray o)=true)(hM:∀C∈Ms,C∈Ls)(h:WO X f ops k Ms o e Ls):WS X f (.region id ops.toArray true) k e Ls:=by
 rw [Bool.and_eq_true] at hB
 exact .drawn hm o hB.1 hB.2 Ms hM h
end
theorem Zz {G H:Prop}(Ms:List Chunk)(o:aA)(k:H)(h:OQM Ms o->gG H->G:=by
 intro oo kk;refine go ?_;refine WS.Uw oo ?_ ?_ ?_ ?_;exact rfl;kernel_rfl;(repeat (first | exact ND | (apply NF;exact mem)));exact kk.out):G:=h ⟨⟩ ⟨k⟩
def rQ (g s gt:Nat)(m:Int)(ks:List Nat)(G:Chunk):Prop:=∃ad c D,az D 145 3 (.slice ad ks.length c) ks.length ((KR m ks).flatMap Pl.lay)/\G=[(g,ax [ptr s,.int .u64 gt,.slice ad ks.length c] 254)]++D
section
variable (T:TypeId)(fr:Nat×Nat)(p:Nat)(qs:List Nat)(t pool:Nat)(tp:Tp)(pr:Bool)(n:Nat)(ls:List (Option Lv))(no:Nat)(V:Chunk)(hV:jb t pool tp pr n ls no V)(ok:dK tp pr n ls.length)(dE:n<=2048)(R:Rk)(C:Chunk)(hC:bq p qs R C)(ho:dJ qs R n ls)(hall:∀x∈ls,x≠none)(bZ:R.on)
variable (s al:Nat)(ra rd txg note:Nat)(g gt:Nat)(ic:1<=gt/\gt<=281474976710656)(ks:List Nat)(lY:ks.length<=100000)(G:Chunk)(hG:rQ g s gt ((aN pr ls.length 1024:Nat):Int) ks G)
theorem Ux (G X1 X2 X3 X4 X5:Chunk)(b:List UInt8)(L:Nat)(hL:b.length=L)(hb:bp b=true)(O:Chunk)(v:Value)(hO:Rd O 1 v L (ak b)):Ct 217 [ptr g,v] [G,X1,X2,X3,X4,X5,O] fun u Bs=>u = .tuple #[ah.agg,.int .i64 0]/\Bs=[G,X1,X2,X3,X4,X5,O]:=by
 have h:=zU v O b L hL hO
 rw [hb] at h
 refine st Tryz.func217 fun w0 => ?_
 refine ga ?_;intro b4
 refine gc h ?_
 rintro _ _ ⟨rfl,rfl⟩
 refine gz ?_
 exact fin ⟨rfl,rfl⟩ aa
include hV ok dE hC ho hall bZ ic lY hG
theorem ZA (x:Rm)(Al:Chunk)(hA:pd al ((bD pr ls.length n:Nat):Int) ((aN pr ls.length 1024:Nat):Int) x Al)(hr:∃k:Nat,k∉x.D/\(k+1:Int)*((aN pr ls.length 1024:Nat):Int)<=((bD pr ls.length n:Nat):Int))(b:List UInt8)(L:Nat)(hL:b.length=L)(K9:1<=L/\L<=1024)(hb:bp b=false)(O:Chunk)(v:Value)(hO:Rd O 1 v L (ak b))(hw:R.ws.length+40<=900000000000) :
  Ct 217 [ptr g,v] [G,[(s,bR t (ptr al) ra rd txg note)],gK T fr,C,V,Al,O] fun u Bs=>∃k:Nat,k∉x.D/\(k+1:Int)*((aN pr ls.length 1024:Nat):Int)<=((bD pr ls.length n:Nat):Int)/\u = .tuple #[(GA (k*aN pr ls.length 1024) gt b 2).agg,.int .i64 0] /\
   ∃G' C' jN,rQ g s gt ((aN pr ls.length 1024:Nat):Int) (ks++[k]) G'/\bq p qs (R.run (s9 pr ls (k*aN pr ls.length 1024) b)) C'/\pd al ((bD pr ls.length n:Nat):Int) ((aN pr ls.length 1024:Nat):Int) (x.take k) jN/\Bs=[G',[(s,bR t (ptr al) ra rd txg note)],gK T fr,C',V,jN,O]:=by
 have dr:=zU v O b L hL hO
 rw [hb] at dr
 have ek:=Zs s t pool tp pr n ls no V hV ok dE (ptr al) ra rd txg note
 have ZB:=sI pr ok.hw ok.hp
 have T4:=iB pr ok.hw ⟨ok.hn.1,dE⟩
 have Lj:=qi (pr:=pr) (w:=ls.length) (b:=L) ok.hw ok.hp K9.2
 have nL:=fun k hk=>O1 T fr p qs t pool tp pr n ls no V hV ok R C hC ho hall (k*aN pr ls.length 1024) gt b L hL K9 2 (.inr rfl) hk ic O v hO hw
 have jy:∀k,(R.run (s9 pr ls (k*aN pr ls.length 1024) b)).off=false:=fun k=>(bZ.run _).2
 have Dv:=Ug al ((bD pr ls.length n:Nat):Int) ((aN pr ls.length 1024:Nat):Int) oZ oZ x Al hA hr
 obtain ⟨adG,cG,DG,hDG,rfl⟩:=hG
 refine st Tryz.func217 fun w0 => ?_
 refine gs ?_
 refine ga ?_;intro b4
 refine gc dr ?_
 rintro _ _ ⟨rfl,rfl⟩
 refine Zz [[(g,ax [ptr s,.int .u64 gt,.slice adG ks.length cG] 254)],[(s,bR t (ptr al) ra rd txg note)]] (aA.cons (0,0) (aA.cons (1,0) (aA.cons (2,0) (aA.cons (3,0) (aA.cons (4,0) (aA.cons (5,0) (aA.cons (6,0) (aA.cons (7,0) (aA.cons (8,0) (aA.cons (9,0) (aA.cons (10,0) (aA.fork 11 (aA.fork 12 (aA.y7 [(13,0),(14,0),(15,2),(16,1),(17,3),(18,2)]) 16 (aA.y7 [(12,1),(13,0),(14,0),(15,2),(17,3),(18,2)])) 16 (aA.y7 [(11,1),(12,1),(13,0),(14,0),(15,2),(17,3),(18,2)]))))))))))))) ?_
 refine gk ?_ ?_
 case' refine_2 =>
  refine ga ?_;intro b6
  refine gc ek ?_
  rintro _ _ ⟨adN,cN,DN,rfl,hDN,rfl⟩
  refine gc (Dv DN adN cN hDN.rd) ?_
  rintro _ _ ⟨k,hk,jE,rfl,jN,ZC,rfl⟩
 case' refine_1 =>
  refine gc ek ?_
  rintro _ _ ⟨adN,cN,DN,rfl,hDN,rfl⟩
  refine gk ?_ ?_
 case' refine_1.refine_2 =>
  refine ga ?_;intro b6
  refine gc (Dv DN adN cN hDN.rd) ?_
  rintro _ _ ⟨k,hk,jE,rfl,jN,ZC,rfl⟩
 case' refine_1.refine_1 =>
  refine gc (Dv DN adN cN hDN.rd) ?_
  rintro _ _ ⟨k,hk,jE,rfl,jN,ZC,rfl⟩
  refine ga ?_;intro b6
 all_goals
  have hmul:((k:Int)*((aN pr ls.length 1024:Nat):Int))=((k*aN pr ls.length 1024:Nat):Int):=by rw [Int.natCast_mul]
  have aeq:k*aN pr ls.length 1024+aN pr ls.length L<=bD pr ls.length n:=by
   have h1:((k*aN pr ls.length 1024:Nat):Int)+((aN pr ls.length 1024:Nat):Int)<=((bD pr ls.length n:Nat):Int):=by rw [<-hmul];rw [Int.add_mul,Int.one_mul] at jE;exact jE
   omega
  have nL:=nL k aeq
  rw [jy k] at nL
  refine qM [[(g,ax [ptr s,.int .u64 gt,.slice adG ks.length cG] 254)],[(b6,ax [.int .i64 0,.int .i64 ((k:Int)*((aN pr ls.length 1024:Nat):Int)),.int .i64 ((aN pr ls.length 1024:Nat):Int)] 145)]] [0,4,8,12,16,20,25,29,32,36,43] ?_
  refine gm ?_;intro b37
  refine gp ?_;intro adH cH DH hDH
  refine qM [[(s,bR t (ptr al) ra rd txg note)],[(g,ax [ptr s,.int .u64 gt,.slice adH (ks.length+1) cH] 254)],[(b6,ax [.int .i64 0,.int .i64 ((k:Int)*((aN pr ls.length 1024:Nat):Int)),.int .i64 ((aN pr ls.length 1024:Nat):Int)] 145)]] [0,4,8,12,16,20,24,28,32,36,40,44,48,52,56,60,64,69,72,76,83,86] ?_
  refine go ?_
  rw [hmul]
  refine gc nL ?_
  rintro _ _ ⟨C',rfl,bA,rfl⟩
  refine gz ?_
  exact fin ⟨k,hk,jE,rfl,_,C',jN,⟨adH,cH,DH,by simpa [KR,Pl.lay,kP] using hDH,rfl⟩,bA,ZC,rfl⟩ (by simp only [List.length_append,List.length_cons,List.length_nil];exact aa)
end
end Go.Proofs.YteldablklnfblaaGreatDoor
namespace Go.Sl
def iE (l:List au)(k:Int):Int×Int:=if 1<=k/\k<=112 then (match ey l k with
 | some o=>((o.b.length:Int),0)
 | none=>(0,130)) else (0,1)
theorem rR {l:List au}{k:Int}(h:¬(1<=k/\k<=112)):iE l k=(0,1):=if_neg h
theorem qj {l:List au}{k:Int}(h:1<=k/\k<=112)(h2:ey l k=none):iE l k=(0,130):=by unfold iE;rw [if_pos h,h2]
theorem rS {l:List au}{k:Int}{o:au}(h:1<=k/\k<=112)(h2:ey l k=some o):iE l k=((o.b.length:Int),0):=by unfold iE;rw [if_pos h,h2]
def mQ (o:au)(g i:Nat):Bool:=o.gE i||decide (g<o.born i)
def aV (o:au)(g:Nat):List Bool:=(List.range 64).map (mQ o g)
theorem Ha (o:au)(g:Nat):(aV o g).length=64:=by simp [aV]
theorem Lk {o:au}{g i:Nat}(h:i<64):(aV o g)[i]? = some (mQ o g i):=by simp [aV,h]
end Go.Sl
namespace Go.Proofs.YteldablklnfblaaGreatDoor
open Go.Sl
set_option maxRecDepth 10000
set_option maxHeartbeats 4000000
section
variable (a:Nat)(l:List au)(aQ:mO l)(txg note room:Nat)(vG vS:Value)(ad:Option Addr)(c:Nat)(D O:Chunk)(hD:Rd D 130 (.slice ad l.length c) l.length (l.flatMap au.lay))(hO:Ed O l)
theorem Ll (k x y:Int)(h:¬(1<=k/\k<=112)\/x<0\/y<0):Ct 56 [ptr a,.int .i64 k,.int .i64 x,.int .i64 y] [] fun u Bs=>u = .tuple #[.slice none 0 0,.int .i64 1]/\Bs=[]:=by
 have hn:=cB k
 refine st Tryz.func56 fun w0 => ?_
 refine gc hn ?_
 rintro _ _ ⟨rfl,rfl⟩
 by_cases hk:1<=k/\k<=112
 ·rw [decide_eq_true hk]
  have h:=h.resolve_left (fun c=>c hk)
  by_cases hx:x<0
  ·refine gz ?_
   exact fin ⟨rfl,rfl⟩ aa
  ·have hy:=h.resolve_left hx
   refine gz ?_
   exact fin ⟨rfl,rfl⟩ aa
 ·rw [decide_eq_false hk]
  refine gz ?_
  exact fin ⟨rfl,rfl⟩ aa
include aQ hD
theorem P6 (k:Int)(hk:1<=k/\k<=112)(x y:Nat)(h:ey l k=none):Ct 56 [ptr a,.int .i64 k,.int .i64 x,.int .i64 y] [[(a,eM (.slice ad l.length c) txg note room vG vS)],D] fun u Bs=>u = .tuple #[.slice none 0 0,.int .i64 130]/\Bs=[[(a,eM (.slice ad l.length c) txg note room vG vS)],D]:=by
 have hn:=cB k
 rw [decide_eq_true hk] at hn
 refine st Tryz.func56 fun w0 => ?_
 refine gc hn ?_
 rintro _ _ ⟨rfl,rfl⟩
 refine gc (qf a l aQ txg note room vG vS ad c D hD k) ?_
 rintro _ _ ⟨⟨rfl, -⟩ | ⟨i,o, -, -,hn⟩,rfl⟩
 ·refine gz ?_
  exact fin ⟨rfl,rfl⟩ aa
 ·rw [h] at hn;cases hn
include hO
theorem AF (k:Int):Ct 57 [ptr a,.int .i64 k] [[(a,eM (.slice ad l.length c) txg note room vG vS)],D] fun u Bs=>u = .tuple #[.int .i64 (iE l k).1,.int .i64 (iE l k).2]/\Bs=[[(a,eM (.slice ad l.length c) txg note room vG vS)],D]:=by
 have hn:=cB k
 by_cases hk:1<=k/\k<=112
 ·rw [decide_eq_true hk] at hn
  refine st Tryz.func57 fun w0 => ?_
  refine gc hn ?_
  rintro _ _ ⟨rfl,rfl⟩
  refine gc (qf a l aQ txg note room vG vS ad c D hD k) ?_
  rintro _ _ ⟨⟨rfl,hn⟩ | ⟨i,o,rfl,hi,hn⟩,rfl⟩
  ·rw [qj hk hn]
   refine gz ?_
   exact fin ⟨rfl,rfl⟩ aa
  ·rw [rS hk hn]
   have bm:=(List.getElem?_eq_some_iff.1 hi).1
   have qR:=List.mem_of_getElem? hi
   have nP:=aQ.jY
   obtain ⟨g,off,rfl⟩:=hD.addr oZ
   have hs:=ar au.aj l i o hi
   obtain ⟨⟨j8,cv,hv, -⟩, -⟩:=hO o qR
   have xu:=hs 1 _ (show o.lay[1]? = some (.slice j8 o.b.length cv) by rw [<-hv];exact au.rM _)
   refine gz ?_
   exact fin ⟨rfl,rfl⟩ aa
 ·rw [decide_eq_false hk] at hn
  rw [rR hk]
  refine st Tryz.func57 fun w0 => ?_
  refine gc hn ?_
  rintro _ _ ⟨rfl,rfl⟩
  refine gz ?_
  exact fin ⟨rfl,rfl⟩ aa
theorem P7 (k:Int)(hk:1<=k/\k<=112)(x y:Nat)(hxy:x<9223372036854775808/\y<9223372036854775808)(o:au)(h:ey l k=some o):Ct 56 [ptr a,.int .i64 k,.int .i64 x,.int .i64 y] [[(a,eM (.slice ad l.length c) txg note room vG vS)],D,O] fun u Bs=>∃ba c',u = .tuple #[.slice ba (dB o.b.length x y) c',.int .i64 0]/\Rd O 1 (.slice ba (dB o.b.length x y) c') (dB o.b.length x y) (ak ((o.b.drop x).take y))/\Bs=[[(a,eM (.slice ad l.length c) txg note room vG vS)],D,O]:=by
 have hn:=cB k
 rw [decide_eq_true hk] at hn
 refine st Tryz.func56 fun w0 => ?_
 refine gc hn ?_
 rintro _ _ ⟨rfl,rfl⟩
 refine gc (qf a l aQ txg note room vG vS ad c D hD k) ?_
 rintro _ _ ⟨⟨rfl,hn⟩ | ⟨i,o',rfl,hi,hn⟩,rfl⟩
 ·rw [h] at hn;cases hn
 ·obtain rfl:o=o':=by rw [h] at hn;exact Option.some.inj hn
  have bm:=(List.getElem?_eq_some_iff.1 hi).1
  have qR:=List.mem_of_getElem? hi
  have nP:=aQ.jY
  have Bm:=aQ.sm o qR
  obtain ⟨g,off,rfl⟩:=hD.addr oZ
  have hs:=ar au.aj l i o hi
  obtain ⟨⟨j8,cv,hv,R3⟩,hR⟩:=hO o qR
  have xu:=hs 1 _ (show o.lay[1]? = some (.slice j8 o.b.length cv) by rw [<-hv];exact au.rM _)
  rw [hv] at hR
  clear hv
  by_cases hx:o.b.length<=x
  ·have e:dB o.b.length x y=0:=by unfold dB;omega
   have e2:(o.b.drop x).take y=[]:=by rw [List.drop_eq_nil_of_le hx];simp
   rw [e,e2]
   refine gz ?_
   exact fin ⟨none,0,rfl,Rd.nil _ _,rfl⟩ aa
  ·have ou:((ak o.b).drop (x*1)).take ((o.b.length - x)*1)=ak (o.b.drop x):=by rw [Nat.mul_one,Nat.mul_one,aY,List.take_of_length_le (by rw [ai,List.length_drop];omega)]
   have Mq:o.b.length - x=o.b.length - x:=rfl
   refine gw ?_;intro ad2 kD
   by_cases hy:y<o.b.length - x
   ·have e:dB o.b.length x y=y:=by unfold dB;omega
    rw [e]
    have YY:((ak (o.b.drop x)).drop (0*1)).take ((y - 0)*1)=ak ((o.b.drop x).take y):=by rw [Nat.zero_mul,List.drop_zero,Nat.sub_zero,Nat.mul_one,aL]
    have dE:y - 0=y:=rfl
    clear hR
    refine gw ?_;intro fL zK
    refine gz ?_
    exact fin ⟨fL,_,rfl,zK,rfl⟩ aa
   ·have e:dB o.b.length x y=o.b.length - x:=by unfold dB;omega
    rw [e,List.take_of_length_le (by rw [List.length_drop];omega)]
    refine gz ?_
    exact fin ⟨ad2,_,rfl,kD,rfl⟩ aa
theorem Lm (k:Int)(g:Nat)(h:(iE l k).2≠0):Ct 59 [ptr a,.int .i64 k,.int .u64 g] [[(a,eM (.slice ad l.length c) txg note room vG vS)],D] fun u Bs=>u = .tuple #[.slice none 0 0,.int .i64 (iE l k).2]/\Bs=[[(a,eM (.slice ad l.length c) txg note room vG vS)],D]:=by
 have hs:=AF a l aQ txg note room vG vS ad c D O hD hO k
 generalize iE l k=z at *
 obtain ⟨z1,z2⟩:=z
 simp only at h hs ⊢
 refine st Tryz.func59 fun w0 => ?_
 refine gc hs ?_
 rintro _ _ ⟨rfl,rfl⟩
 refine gz ?_
 exact fin ⟨rfl,rfl⟩ aa
theorem P8 (k:Int)(hk:1<=k/\k<=112)(g:Nat)(o:au)(h:ey l k=some o):Ct 59 [ptr a,.int .i64 k,.int .u64 g] [[(a,eM (.slice ad l.length c) txg note room vG vS)],D] fun u Bs=>∃ba c' E,u = .tuple #[.slice ba (mb o.b.length 0 (aV o g) []).length c',.int .i64 0]/\az E 143 2 (.slice ba (mb o.b.length 0 (aV o g) []).length c') (mb o.b.length 0 (aV o g) []).length ((mb o.b.length 0 (aV o g) []).flatMap Sp.lay)/\Bs=[E,[(a,eM (.slice ad l.length c) txg note room vG vS)],D]:=by
 have bu:=AF a l aQ txg note room vG vS ad c D O hD hO k
 rw [rS hk h] at bu
 have gA:=qf a l aQ txg note room vG vS ad c D hD k
 have dr:=Ha o g
 refine st Tryz.func59 fun w0 => ?_
 refine gc bu ?_
 rintro _ _ ⟨rfl,rfl⟩
 have qR:=(fh h).1
 have nP:=aQ.jY
 have JG:=List.length_pos_of_mem qR
 have GO:=o.aj
 have fG:=o.bC (by obtain ⟨⟨j8,cv,hv, -⟩, -⟩:=hO o qR;rw [hv];rfl)
 obtain ⟨gD,off,rfl⟩:=hD.addr oZ
 refine Zz [[(a,eM (.slice (some ⟨gD,off,none⟩) l.length c) txg note room vG vS)],D] (aA.cons (0,0) (aA.cons (1,0) (aA.cons (2,0) (aA.cons (3,0) (aA.cons (4,0) (aA.cons (5,0) (aA.fork 6 (aA.y7 [(7,0),(8,0),(9,1),(10,3)]) 9 (aA.y7 [(6,1),(7,0),(8,0),(10,3)])))))))) ?_
 refine gk ?_ ?_
 case' refine_1 =>
  refine gc gA ?_
  rintro _ _ ⟨⟨rfl,hn⟩ | ⟨i,o',rfl,hi,hn⟩,rfl⟩
  case' inl=>exact absurd h (by rw [hn];simp)
  obtain rfl:o=o':=by rw [h] at hn;exact Option.some.inj hn
  have bm:=(List.getElem?_eq_some_iff.1 hi).1
  have hs:=ar au.aj l i o hi
  refine ga ?_;intro xc
 case' refine_2 =>
  refine ga ?_;intro xc
  refine gc gA ?_
  rintro _ _ ⟨⟨rfl,hn⟩ | ⟨i,o',rfl,hi,hn⟩,rfl⟩
  case' inl=>exact absurd h (by rw [hn];simp)
  obtain rfl:o=o':=by rw [h] at hn;exact Option.some.inj hn
  have bm:=(List.getElem?_eq_some_iff.1 hi).1
  have hs:=ar au.aj l i o hi
 all_goals
  refine gm ?_;intro g11 C11 abR
  have hC:C11=[(g11,ax (aO (bx (aV o g) 0)) 108)]:=by
   rcases abR.2.2 with ⟨h,_⟩ | ⟨g',c',r',hv,rfl,_,_,hlen⟩
   ·cases h
   ·cases hv
    have h3:=abR.1
    obtain rfl:r'=[]:=List.eq_nil_of_length_eq_zero oZ
    rw [List.append_nil]
    have:(List.replicate 64 ah.lay).flatten=aO (bx (aV o g) 0):=by
     rw [pZ 64 ah Pt.lay];rfl
    rw [<-this];rfl
  subst hC
  refine gl [2,10,11] (fun (i:Nat)=>[(12,.int .i64 i)]) (fun i=>[[(g11,ax (aO (bx (aV o g) i)) 108)]]) (fun i=>i<=64) (fun i=>64 - i) 0 oZ ?_
  rintro j hj
  refine gi ?_ ?_ <;> intro bo
  ·have pj:j<64:=by omega
   have K6:(aV o g)[j]? = some (mQ o g j):=Lk pj
   have xA:=nD dr hj
   have abS:=o.I1 pj
   have af4:=o.PK pj
   have nE:∀b:Bool,mQ o g j=b->(match b with | true=>(aO (bx (aV o g) j)).set (j*9+3) (.int .u64 1) | false=>aO (bx (aV o g) j))=aO (bx (aV o g) (j+1)):=fun b hb=>by
    rw [hb] at K6
    cases b
    ·rw [Ef dr pj K6]
    ·exact yF dr pj K6
   cases P9:o.gE j with
   | true =>
    rw [P9] at abS
    have nE:(aO (bx (aV o g) j)).set (j*9+3) (.int .u64 1)=aO (bx (aV o g) (j+1)):=nE true (by unfold mQ;rw [P9];rfl)
    refine gn ?_
    rw [nE]
    exact ⟨j+1,by omega,by omega,aq,_,aa⟩
   | false =>
    rw [P9] at abS
    refine gi ?_ ?_ <;> intro hbt
    ·have nE:(aO (bx (aV o g) j)).set (j*9+3) (.int .u64 1)=aO (bx (aV o g) (j+1)):=nE true (by unfold mQ;rw [P9];exact decide_eq_true oZ)
     refine gn ?_
     rw [nE]
     exact ⟨j+1,by omega,by omega,aq,_,aa⟩
    ·have nE:aO (bx (aV o g) j)=aO (bx (aV o g) (j+1)):=nE false (by unfold mQ;rw [P9];exact decide_eq_false oZ)
     refine gn ?_
     rw [nE]
     exact ⟨j+1,by omega,by omega,aq,_,aa⟩
  ·obtain rfl:j=64:=by omega
   have jH:bx (aV o g) 64=(aV o g).map qP:=by unfold bx;rw [List.take_of_length_le oZ];simp
   rw [jH]
   have hR:Rd [(g11,ax (aO ((aV o g).map qP)) 108)] 9 (.slice (some ⟨g11,0,none⟩) 64 64) 64 (aO ((aV o g).map qP)):=by
    have h9:=nD dr (Nat.le_refl 64)
    rw [jH] at h9
    exact av oZ (fun u hu=>by obtain ⟨x, -,hx⟩:=List.mem_flatMap.1 hu;exact Pt.bC x u hx) oZ _
   have Bm:=aQ.sm o qR
   obtain ⟨⟨j8,cv,hv, -⟩, -⟩:=hO o qR
   have XO:o.lay[1]? = some (.slice j8 o.b.length cv):=by rw [<-hv];exact au.rM _
   refine gc (KG _ _ 64 o.b.length (aV o g) dr Bm hR) ?_
   rintro _ _ ⟨ba,c',E,rfl,hE,rfl⟩
   refine gz ?_
   exact fin ⟨ba,c',E,rfl,hE,rfl⟩ aa
end
section
variable (T:TypeId)(fr:Nat×Nat)(p:Nat)(qs:List Nat)(t pool:Nat)(tp:Tp)(pr:Bool)(n:Nat)(ls:List (Option Lv))(no:Nat)(V:Chunk)(hV:jb t pool tp pr n ls no V)(ok:dK tp pr n ls.length)(R:Rk)(C:Chunk)(hC:bq p qs R C)(ho:dJ qs R n ls)(hall:∀x∈ls,x≠none)(bZ:R.off=false)
variable (s:Nat)(vA:Value)(ra rd txg note:Nat)(LA:List (Int×Value))(CA:Chunk)(hA:Mp ra .i64 LA CA)(all:List (Int×Ob))(VA:Chunk)(hG:eS wi LA all VA)
variable (a:Nat)(l:List au)(aQ:mO l)(room:Nat)(vG vS:Value)(ad:Option Addr)(c:Nat)(D O:Chunk)(hD:Rd D 130 (.slice ad l.length c) l.length (l.flatMap au.lay))(hO:Ed O l)
include hV ok hC ho hall bZ hA hG aQ hD hO
theorem ZD (iM:LA.length=l.length)(su:∀ks,ks.Perm (LA.map (·.1))->ks.Pairwise (· <= ·)->ks=l.map fun o=>(o.no:Int))(dw:Pt->List UInt8)
  (Lo:∀o∈l,1<=o.no/\∃ob,aH all o.no=some ob/\ob.size=o.b.length/\ob.me dw 0 ob.size=o.b/\(∀x∈ob.ay,x≠ah->K0 R ls pr n x (dw x))/\∀e∈ob.fresh,e.2.length<=1024) :
  Ct 8 [ptr s,ptr a] [[(s,bR t vA ra rd txg note)],gK T fr,C,V,CA,VA,[(a,eM (.slice ad l.length c) txg note room vG vS)],D,O] fun u Bs=>u = .bool true/\Bs=[[(s,bR t vA ra rd txg note)],gK T fr,C,V,CA,VA,[(a,eM (.slice ad l.length c) txg note room vG vS)],D,O]:=by
 have nP:=aQ.jY
 refine st Tryz.func8 fun w0 => ?_
 refine gc (yE s t vA ra rd txg note LA CA hA oZ) ?_
 rintro _ _ ⟨ks,iK,c1,E,k1,k2,rfl,hE,rfl⟩
 rw [iM] at hE ⊢
 refine gc (Uq a l aQ txg note room vG vS ad c D hD ks (su ks k1 k2) E iK c1 hE) ?_
 rintro _ _ ⟨rfl,E',rfl⟩
 refine gd [0,4,8,12,20,24,28,32,17,36,40,44,48,56,60,64,68,53,72,76] ?_
 refine gc (Zw s t vA ra rd txg note) ?_
 rintro _ _ ⟨rfl,rfl⟩
 refine gc (Uo s t vA ra rd txg note) ?_
 rintro _ _ ⟨rfl,rfl⟩
 refine gl [0,1,5] (fun i:Nat=>[(6,.int .i64 i)]) (fun _=>[]) (fun i=>i<=l.length) (fun i=>l.length - i) 0 oZ ?_
 intro i hi
 refine gi ?_ ?_ <;> intro bo
 ·have bm:i<l.length:=by omega
  have jw:=hD
  obtain ⟨gD,off,rfl⟩:=hD.addr oZ
  have hs:=ar au.aj l i l[i] (by simp)
  have xp:=hs 0 _ (au.PL _)
  obtain ⟨o1,ob,o2,o3,o4,o5,o6⟩:=Lo l[i] (List.getElem_mem bm)
  obtain ⟨⟨j8,cv,hv,R3⟩,xz⟩:=hO l[i] (List.getElem_mem bm)
  have xu:=hs 1 _ (show l[i].lay[1]? = some (.slice j8 l[i].b.length cv) by rw [<-hv];exact au.rM _)
  rw [hv] at xz
  have Bm:=aQ.sm l[i] (List.getElem_mem bm)
  have eD:=aQ.no l[i] (List.getElem_mem bm)
  have bu:=I2 s t vA ra rd txg note LA CA hA all VA hG l[i].no
  rw [eN oZ o2] at bu
  have pc:=I3 T fr p qs t pool tp pr n ls no V hV ok R C hC ho hall bZ s vA ra rd txg note LA CA hA all VA hG l[i].no oZ 0 65536 oZ ob o2 oZ dw o5 o6
  rw [show dB ob.size 0 65536=l[i].b.length by unfold dB;omega,<-o3,o4,o3] at pc
  refine gc bu ?_
  rintro _ _ ⟨rfl,rfl⟩
  refine gc pc ?_
  rintro _ _ ⟨ad2,c2,E2,rfl,hE2,rfl⟩
  have af5:=hE2.rd
  refine gd [0,4,8,12,16,20,24,28,32,36,40,44,48,52,56,60,64,68,72,76,80,84,88,92,96,100,104,108,112,116,120,124,128] ?_
  refine gi ?_ ?_ <;> intro eL
  ·simp at eL
  ·refine gn ?_
   exact ⟨i+1,by omega,by omega,aq,_,aa⟩
 ·obtain rfl:i=l.length:=by omega
  refine gz ?_
  exact fin ⟨rfl,rfl⟩ aa
end
end Go.Proofs.YteldablklnfblaaGreatDoor
namespace Go.Sl
def Tp.qk (t:Tp):Prop:=324<=t.bz/\t.bz<=2048/\t.leaves<=5/\((t.kind=1/\t.leaves=1)\/(t.kind=2/\2<=t.leaves)\/(t.kind=3/\3<=t.leaves))
instance (t:Tp):Decidable t.qk:=by unfold Tp.qk;exact inferInstance
end Go.Sl
namespace Go.Proofs.YteldablklnfblaaGreatDoor
open Go.Sl
set_option maxRecDepth 10000
set_option maxHeartbeats 4000000
theorem ZE {t:Tp}(h:t.qk):dK t (decide (t.kind=3)) t.bz.toNat t.leaves.toNat:=by
 obtain ⟨h1,h2,h3,h4⟩:=h
 obtain ⟨k,l,s⟩:=t
 simp only at *
 exact ⟨by omega,by omega,fun h=>by have:=of_decide_eq_true h;omega,by simp only [Tp.mk.injEq];exact ⟨trivial,by omega,by omega⟩,rfl⟩
theorem ZF (k l s:Int):Ct 4 [.agg #[.int .i64 k,.int .i64 l,.int .i64 s]] [] fun u Bs=>u = .bool (decide (Tp.mk k l s).qk)/\Bs=[]:=by
 refine st Tryz.func4 fun w0 => ?_
 refine ga ?_;intro b1
 refine gg ?_ ?_ <;> intro h1
 ·refine gz ?_
  exact fin ⟨congrArg _ (decide_eq_false fun h=>by obtain ⟨a,b,c,d⟩:=h;simp only at *;omega).symm,rfl⟩ aa
 ·refine gg ?_ ?_ <;> intro h2
  ·refine gz ?_
   exact fin ⟨congrArg _ (decide_eq_false fun h=>by obtain ⟨a,b,c,d⟩:=h;simp only at *;omega).symm,rfl⟩ aa
  ·refine gi ?_ ?_ <;> intro h3
   ·refine gz ?_
    exact fin ⟨congrArg _ (decide_eq_false fun h=>by obtain ⟨a,b,c,d⟩:=h;simp only at *;omega).symm,rfl⟩ aa
   ·have hb:∀k':Int,(Tp.mk k' l s).qk↔((k'=1/\l=1)\/(k'=2/\2<=l)\/(k'=3/\3<=l)):=fun k'=>⟨fun h=>h.2.2.2,fun h=>⟨by simp only;omega,by simp only;omega,by simp only;omega,h⟩⟩
    have hh:=hb k
    refine gg ?_ ?_ <;> intro k1
    ·refine gg ?_ ?_ <;> intro k4
     ·refine gz ?_
      exact fin ⟨congrArg _ (by first | exact (decide_eq_true (hh.2 oZ)).symm | exact (decide_eq_false fun h=>by have:=hh.1 h;omega).symm | exact (decide_eq_decide.2 (hh.trans ⟨fun h=>by omega,fun h=>by omega⟩)).symm | (rw [show decide (Tp.mk k l s).qk=_ from decide_eq_decide.2 hh];simp;try omega)),rfl⟩ aa
     ·refine gz ?_
      exact fin ⟨congrArg _ (by first | exact (decide_eq_true (hh.2 oZ)).symm | exact (decide_eq_false fun h=>by have:=hh.1 h;omega).symm | exact (decide_eq_decide.2 (hh.trans ⟨fun h=>by omega,fun h=>by omega⟩)).symm | (rw [show decide (Tp.mk k l s).qk=_ from decide_eq_decide.2 hh];simp;try omega)),rfl⟩ aa
    ·refine gg ?_ ?_ <;> intro k2
     ·refine gg ?_ ?_ <;> intro k4
      ·refine gz ?_
       exact fin ⟨congrArg _ (by first | exact (decide_eq_true (hh.2 oZ)).symm | exact (decide_eq_false fun h=>by have:=hh.1 h;omega).symm | exact (decide_eq_decide.2 (hh.trans ⟨fun h=>by omega,fun h=>by omega⟩)).symm | (rw [show decide (Tp.mk k l s).qk=_ from decide_eq_decide.2 hh];simp;try omega)),rfl⟩ aa
      ·refine gz ?_
       exact fin ⟨congrArg _ (by first | exact (decide_eq_true (hh.2 oZ)).symm | exact (decide_eq_false fun h=>by have:=hh.1 h;omega).symm | exact (decide_eq_decide.2 (hh.trans ⟨fun h=>by omega,fun h=>by omega⟩)).symm | (rw [show decide (Tp.mk k l s).qk=_ from decide_eq_decide.2 hh];simp;try omega)),rfl⟩ aa
     ·refine gg ?_ ?_ <;> intro k3
      ·refine gz ?_
       exact fin ⟨congrArg _ (by first | exact (decide_eq_true (hh.2 oZ)).symm | exact (decide_eq_false fun h=>by have:=hh.1 h;omega).symm | exact (decide_eq_decide.2 (hh.trans ⟨fun h=>by omega,fun h=>by omega⟩)).symm | (rw [show decide (Tp.mk k l s).qk=_ from decide_eq_decide.2 hh];simp;try omega)),rfl⟩ aa
      ·refine gz ?_
       exact fin ⟨congrArg _ (by first | exact (decide_eq_true (hh.2 oZ)).symm | exact (decide_eq_false fun h=>by have:=hh.1 h;omega).symm | exact (decide_eq_decide.2 (hh.trans ⟨fun h=>by omega,fun h=>by omega⟩)).symm | (rw [show decide (Tp.mk k l s).qk=_ from decide_eq_decide.2 hh];simp;try omega)),rfl⟩ aa
theorem I9 (t:Tp):Ct 4 [t.agg] [] fun u Bs=>u = .bool (decide t.qk)/\Bs=[]:=ZF t.kind t.leaves t.bz
theorem Uy (k:Int)(w j:Nat)(hw:1<=w/\w<=5)(hj:j<=2048)(hk:k=3->3<=w):Ct 40 [.agg #[.int .i64 k,.int .i64 (w:Nat),.int .i64 (j+292:Nat)]] [] fun u Bs=>u = .int .i64 (if k=3 then (j*w) / (8+((8+w - 2) / (w - 1))) else j / 8:Nat)/\Bs=[]:=by
 have hjw:j*w<=2048*5:=Nat.mul_le_mul hj hw.2
 have hq:(8+w - 2) / (w - 1)<=8+w - 2:=Nat.div_le_self _ _
 refine st Tryz.func40 fun w0 => ?_
 refine ga ?_;intro b1
 refine gi ?_ ?_ <;> intro h1
 ·have h3:k=3:=by simpa using h1
  have hk:=hk h3
  rw [if_pos h3]
  have e1:IntKind.i64.wrap (((j+292 - 292:Nat):Int)*(w:Int))=((j*w:Nat):Int):=by
   rw [Nat.add_sub_cancel,show (j:Int)*(w:Int)=((j*w:Nat):Int) from rfl,IntWalk.i64_in _ oZ]
  have e2:IntKind.i64.wrap (8+IntKind.i64.wrap ((8+(w:Int) - 2).tdiv ((w - 1:Nat):Int)))=((8+(8+w - 2) / (w - 1):Nat):Int):=by
   rw [show (8+(w:Int) - 2)=((8+w - 2:Nat):Int) by omega,Int.tdiv_eq_ediv_of_nonneg oZ,show (((8+w - 2:Nat):Int) / ((w - 1:Nat):Int))=(((8+w - 2) / (w - 1):Nat):Int) from rfl]
   generalize (8+w - 2) / (w - 1)=x at *
   rw [IntWalk.i64_in (x:Int) oZ,IntWalk.i64_in _ oZ]
   omega
  have e3:8+(8+w - 2) / (w - 1)≠0:=Nat.ne_of_gt (Nat.add_pos_left dZ _)
  refine gz ?_
  exact fin ⟨rfl,rfl⟩ aa
 ·have h3:¬k=3:=by simpa using h1
  rw [if_neg h3]
  refine gz ?_
  exact fin ⟨by rw [Nat.add_sub_cancel],rfl⟩ aa
theorem Qa (tp:Tp)(pr:Bool)(n w:Nat)(ok:dK tp pr n w)(dE:n<=2048):Ct 40 [tp.agg] [] fun u Bs=>u = .int .i64 (bD pr w n / aN pr w 1024:Nat)/\Bs=[]:=by
 obtain ⟨⟨hn, -⟩,hw,hp,ht,hk⟩:=ok
 obtain ⟨k,l,s⟩:=tp
 obtain ⟨rfl,rfl⟩:l=w/\s=n:=by simpa using ht
 obtain ⟨j,rfl⟩:∃j,n=j+292:=⟨n - 292,by omega⟩
 have h:=Uy k w j hw oZ (fun h=>hp (by rw [hk];exact decide_eq_true h))
 have e:(if k=3 then (j*w) / (8+((8+w - 2) / (w - 1))) else j / 8)=bD pr w (j+292) / aN pr w 1024:=by
  simp only at hk
  by_cases h3:k=3
  ·have hp':=hp (by rw [hk];exact decide_eq_true h3)
   rw [if_pos h3,hk,bD,aN,decide_eq_true h3,if_pos rfl,if_pos rfl,Nat.add_sub_cancel,Nat.mul_comm,dG,show aD 1024=8 from rfl,show 8+w - 2=8+(w - 2) by omega]
  ·rw [if_neg h3,hk,bD,aN,decide_eq_false h3,if_neg Bool.false_ne_true,if_neg Bool.false_ne_true,Nat.add_sub_cancel,show aD 1024=8 from rfl]
 rw [e] at h
 exact h
theorem Uz (tp:Tp)(pr:Bool)(n w:Nat)(ok:dK tp pr n w)(dE:n<=2048)(O:Chunk)(ad:Option Addr)(c:Nat)(hO:Rd O 3 (.slice ad 1 c) 1 tp.lay):Ct 13 [.slice ad 1 c] [O] fun u Bs=>u = .int .i64 (((bD pr w n / aN pr w 1024 / 4:Nat):Int) - 10)/\Bs=[O]:=by
 have fH:=Qa tp pr n w ok dE
 have h2:=iB pr ok.hw ⟨ok.hn.1,dE⟩
 have hq:bD pr w n / aN pr w 1024<=10240:=Nat.le_trans (Nat.div_le_self _ _) h2.2
 generalize bD pr w n / aN pr w 1024=z at *
 obtain ⟨g,o,rfl⟩:=hO.addr oZ
 have hs:Sub (0*3) tp.lay tp.lay:=ar Tp.aj [tp] 0 tp rfl
 refine st Tryz.func13 fun w0 => ?_
 refine gl [0,2] (fun ((i,q):Nat×Nat)=>[(4,.int .i64 i),(3,.int .i64 q)]) (fun _=>[]) (fun (i,q)=>i<=1/\q=if i=0 then 0 else z) (fun (i,_)=>1 - i) (0,0) ⟨by omega,rfl⟩ ?_
 rintro ⟨i,q⟩ ⟨hi,Sb⟩
 refine gi ?_ ?_ <;> intro bo
 ·obtain rfl:i=0:=by omega
  obtain rfl:q=0:=Sb
  refine gc fH ?_
  rintro _ _ ⟨rfl,rfl⟩
  refine gn ?_
  exact ⟨(1,z),⟨by omega,rfl⟩,by simp only;omega,aq,_,aa⟩
 ·obtain rfl:i=1:=by omega
  rw [if_neg oZ] at Sb
  subst Sb
  have hw:IntKind.i64.wrap (((q / 4:Nat):Int) - 10)=((q / 4:Nat):Int) - 10:=IntWalk.i64_in _ oZ
  refine gz ?_
  exact fin ⟨rfl,rfl⟩ aa
end Go.Proofs.YteldablklnfblaaGreatDoor
namespace Go.Sl
def l5 (o:au)(l:List au):List au×Bool:=l.foldl (fun p x=>(p.1++((if p.2=false/\o.no<=x.no then [o] else [])++(if x.no=o.no then [] else [x])),p.2||decide (o.no<=x.no))) ([],false)
theorem Eo (o:au):∀(l:List au) (p:List au×Bool),(l.foldl (fun p x=>(p.1++((if p.2=false/\o.no<=x.no then [o] else [])++(if x.no=o.no then [] else [x])),p.2||decide (o.no<=x.no))) p).1++(if (l.foldl (fun p x=>(p.1++((if p.2=false/\o.no<=x.no then [o] else [])++(if x.no=o.no then [] else [x])),p.2||decide (o.no<=x.no))) p).2 then [] else [o])=p.1++dF o p.2 l
 | [],p=>rfl
 | x :: r,p=>by
  rw [List.foldl_cons,Eo o r,dF]
  simp only [List.append_assoc]
theorem Qb (o:au)(l:List au):(l5 o l).1++(if (l5 o l).2 then [] else [o])=dF o false l:=Eo o l ([],false)
theorem yM {o:au}{l:List au}{i:Nat}(hi:i<l.length):l5 o (l.take (i+1))=((l5 o (l.take i)).1++((if (l5 o (l.take i)).2=false/\o.no<=l[i].no then [o] else [])++(if l[i].no=o.no then [] else [l[i]])),(l5 o (l.take i)).2||decide (o.no<=l[i].no)):=by
 unfold l5
 rw [aG l hi,List.foldl_append];rfl
theorem Ep (o:au):∀(l:List au) (i:Nat),i<=l.length->(l5 o (l.take i)).1.length<=2*i
 | l,0,_=>by simp [l5]
 | l,i+1,h=>by
  have ih:=Ep o l i oZ
  rw [yM oZ]
  simp only [List.length_append]
  split <;> split <;> simp <;> omega
end Go.Sl
namespace Go.Proofs.YteldablklnfblaaGreatDoor
open Go.Sl
set_option maxRecDepth 10000
set_option maxHeartbeats 4000000
theorem Hb (a:Nat)(l:List au)(aQ:mO l)(txg note room:Nat)(vG vS:Value)(ad:Option Addr)(c:Nat)(D:Chunk)(hD:Rd D 130 (.slice ad l.length c) l.length (l.flatMap au.lay))(o:au)(hv:o.v.oneCell'=true)(wh:∀x∈l,x.v.oneCell'=true) :
  Ct 110 [ptr a,.agg o.lay.toArray] [[(a,eM (.slice ad l.length c) txg note room vG vS)],D] fun _ Bs=>∃ba c' D',az D' 72 130 (.slice ba (dF o false l).length c') (dF o false l).length ((dF o false l).flatMap au.lay)/\Bs=[[(a,eM (.slice ba (dF o false l).length c') txg note room vG vS)],D']:=by
 have nP:=aQ.jY
 have GO:=o.aj
 have ho0:=o.PL
 have O5:=hD
 have fG:=o.bC hv
 have pE:=Qb o l
 refine st Tryz.func110 fun w0 => ?_
 refine ga ?_;intro b3
 refine gl [0,3] (fun ((i,pN,c4,_):Nat×Option Addr×Nat×Chunk)=>[(6,.int .i64 i),(4,.slice pN (l5 o (l.take i)).1.length c4),(5,.bool (l5 o (l.take i)).2)]) (fun (_,_,_,E)=>[E]) (fun (i,pN,c4,E)=>i<=l.length/\az E 72 130 (.slice pN (l5 o (l.take i)).1.length c4) (l5 o (l.take i)).1.length ((l5 o (l.take i)).1.flatMap au.lay)) (fun (i,_)=>l.length - i) (0,none,0,[]) ⟨by omega,az.nil _ _⟩ ?_
 rintro ⟨i,pN,c4,E⟩ ⟨hi,hE⟩
 have hgl:=Ep o l i hi
 refine gi ?_ ?_ <;> intro bo
 ·have bm:i<l.length:=by omega
  obtain ⟨g,off,rfl⟩:=O5.addr oZ
  have sJ:=yM (o:=o) bm
  obtain ⟨x,hx⟩:∃x,x=l[i]:=⟨_,rfl⟩
  have hs:=ar au.aj l i x (by rw [hx];simp)
  have Fu:=x.aj
  have Ft:=x.bC (wh x (by rw [hx];exact List.getElem_mem _))
  rw [<-hx] at sJ
  have xp:=hs 0 _ x.PL
  generalize l5 o (l.take i)=p at *
  obtain ⟨P,d⟩:=p
  simp only at hE hgl sJ ⊢
  have hRx:∀b,Rd [(b,ax x.lay 72)] 130 (.slice (some ⟨b,0,none⟩) 1 1) 1 x.lay:=fun b=>av (by rw [Fu]) Ft (by simp) _
  have MG:∀b,Rd [(b,ax o.lay 72)] 130 (.slice (some ⟨b,0,none⟩) 1 1) 1 o.lay:=fun b=>av (by rw [GO]) fG (by simp) _
  have tt:(P++[o]).length=P.length+1:=by simp
  have jj:(P++[o]++[x]).length=P.length+1+1:=by simp
  have hl3:(P++[x]).length=P.length+1:=by simp
  by_cases hd:d=false/\o.no<=x.no
  ·obtain ⟨rfl,hle⟩:=hd
   rw [if_pos ⟨rfl,hle⟩,decide_eq_true hle] at sJ
   refine gm ?_;intro b33
   have aer:=MG b33
   refine gp ?_;intro ry c5 E5 hE5
   clear aer
   by_cases he:x.no=o.no
   ·have sJ:l5 o (l.take (i+1))=(P++[o],true):=by rw [sJ,if_pos he];simp
    refine gn ?_
    exact ⟨(i+1,ry,c5,E5),⟨by omega,by rw [sJ];simpa using hE5⟩,by simp only;omega,by simp only [sJ,tt];exact aq,_,aa⟩
   ·have sJ:l5 o (l.take (i+1))=(P++[o]++[x],true):=by rw [sJ,if_neg he];simp
    refine gm ?_;intro b54
    have aes:=hRx b54
    refine gp ?_;intro Gi c6 E6 hE6
    refine gn ?_
    exact ⟨(i+1,Gi,c6,E6),⟨by omega,by rw [sJ];simpa using hE6⟩,by simp only;omega,by simp only [sJ,jj];exact aq,_,aa⟩
  ·have hd2:(d||decide (o.no<=x.no))=d:=by
    cases d with
    | true=>rfl
    | false=>exact decide_eq_false fun h=>hd ⟨rfl,h⟩
   rw [if_neg hd,hd2] at sJ
   have ic:d=true\/d=false/\¬o.no<=x.no:=by
    cases d with
    | true=>exact .inl rfl
    | false=>exact .inr ⟨rfl,fun h=>hd ⟨rfl,h⟩⟩
   rcases ic with rfl | ⟨rfl,ic⟩
   all_goals
    by_cases he:x.no=o.no
    ·rw [if_pos he,List.append_nil,List.append_nil] at sJ
     first | omega | (refine gn ?_;exact ⟨(i+1,pN,c4,E),⟨by omega,by rw [sJ];exact hE⟩,by simp only;omega,by simp only [sJ];exact aq,_,aa⟩)
    ·rw [if_neg he,List.nil_append] at sJ
     refine gm ?_;intro b54
     have aes:=hRx b54
     refine gp ?_;intro Gi c6 E6 hE6
     refine gn ?_
     exact ⟨(i+1,Gi,c6,E6),⟨by omega,by rw [sJ];simpa using hE6⟩,by simp only;omega,by simp only [sJ,hl3];exact aq,_,aa⟩
 ·obtain rfl:i=l.length:=by omega
  rw [List.take_length] at hE hgl ⊢
  generalize l5 o l=p at *
  obtain ⟨P,d⟩:=p
  simp only at hE hgl pE ⊢
  cases d with
  | true =>
   have e:P=dF o false l:=by simpa using pE
   subst e
   refine gz ?_
   exact fin ⟨pN,c4,E,hE,rfl⟩ aa
  | false =>
   have e:P++[o]=dF o false l:=by simpa using pE
   rw [<-e]
   refine gm ?_;intro b60
   have af6:Rd [(b60,ax o.lay 72)] 130 (.slice (some ⟨b60,0,none⟩) 1 1) 1 o.lay:=av (by rw [GO]) fG (by simp) _
   refine gp ?_;intro ry c5 E5 hE5
   have hl5:(P++[o]).length=P.length+1:=by simp
   refine gz ?_
   exact fin ⟨ry,c5,E5,by rw [hl5];simpa using hE5,by rw [hl5]⟩ aa
end Go.Proofs.YteldablklnfblaaGreatDoor
namespace Go.Sl
def Hc (k:Nat):au:=⟨k,[],fun _=>0,fun _=>false,.slice none 0 0⟩
theorem wA (k:Nat):(Hc k).lay=[.int .i64 k,.slice none 0 0,.int .u64 0,.int .u64 0,.int .u64 0,.int .u64 0,.int .u64 0,.int .u64 0,.int .u64 0,.int .u64 0,.int .u64 0,.int .u64 0,.int .u64 0,.int .u64 0,.int .u64 0,.int .u64 0,.int .u64 0,.int .u64 0,.int .u64 0,.int .u64 0,.int .u64 0,.int .u64 0,.int .u64 0,.int .u64 0,.int .u64 0,.int .u64 0,.int .u64 0,.int .u64 0,.int .u64 0,.int .u64 0,.int .u64 0,.int .u64 0,.int .u64 0,.int .u64 0,.int .u64 0,.int .u64 0,.int .u64 0,.int .u64 0,.int .u64 0,.int .u64 0,.int .u64 0,.int .u64 0,.int .u64 0,.int .u64 0,.int .u64 0,.int .u64 0,.int .u64 0,.int .u64 0,.int .u64 0,.int .u64 0,.int .u64 0,.int .u64 0,.int .u64 0,.int .u64 0,.int .u64 0,.int .u64 0,.int .u64 0,.int .u64 0,.int .u64 0,.int .u64 0,.int .u64 0,.int .u64 0,.int .u64 0,.int .u64 0,.int .u64 0,.int .u64 0,.bool false,.bool false,.bool false,.bool false,.bool false,.bool false,.bool false,.bool false,.bool false,.bool false,.bool false,.bool false,.bool false,.bool false,.bool false,.bool false,.bool false,.bool false,.bool false,.bool false,.bool false,.bool false,.bool false,.bool false,.bool false,.bool false,.bool false,.bool false,.bool false,.bool false,.bool false,.bool false,.bool false,.bool false,.bool false,.bool false,.bool false,.bool false,.bool false,.bool false,.bool false,.bool false,.bool false,.bool false,.bool false,.bool false,.bool false,.bool false,.bool false,.bool false,.bool false,.bool false,.bool false,.bool false,.bool false,.bool false,.bool false,.bool false,.bool false,.bool false,.bool false,.bool false,.bool false,.bool false]:=by unfold au.lay;rfl
theorem au.W6 (o:au)(b:List UInt8):({ o with b:=b }:au).lay=o.lay:=by unfold au.lay;rfl
theorem kT {o x:au}:∀ {l:List au} {d:Bool},x∈dF o d l->x=o\/x∈l
 | [],d,h=>by
  unfold dF at h
  split at h
  ·cases h
  ·exact .inl (List.mem_singleton.1 h)
 | y :: r,d,h=>by
  rw [dF,List.mem_append,List.mem_append] at h
  rcases h with h | h | h
  ·split at h
   ·exact .inl (List.mem_singleton.1 h)
   ·cases h
  ·split at h
   ·cases h
   ·rw [List.mem_singleton.1 h];exact .inr (List.mem_cons_self ..)
  ·rcases kT h with h | h
   ·exact .inl h
   ·exact .inr (List.mem_cons_of_mem _ h)
def kU (l:List au)(k:Nat):au:=(ey l k).getD (Hc k)
def Lp (b:List UInt8)(size a:Nat)(x:List UInt8):List UInt8:=((dH size b).take a++x)++(dH size b).drop (a+x.length)
theorem Ja {b x:List UInt8}{size a:Nat}(h:a+x.length<=size):(Lp b size a x).length=size:=by
 simp only [Lp,List.length_append,List.length_take,List.length_drop,dR];omega
def qm (o:au)(a j k:Nat):Bool:=o.gE k||cR a j k
theorem Lq (o:au)(a:Nat):qm o a 0=o.gE:=by
 funext k
 have:cR a 0 k=false:=decide_eq_false oZ
 simp [qm,this]
theorem Lr (o:au)(a j:Nat):upd (qm o a j) ((a+j) / 1024) true=qm o a (j+1):=by
 funext k
 unfold upd qm
 have h:cR a (j+1) k=(cR a j k||decide (k=(a+j) / 1024)):=by
  simp only [cR]
  rw [<-Bool.decide_or]
  exact decide_eq_decide.2 oZ
 rw [h]
 by_cases c:k=(a+j) / 1024
 ·rw [if_pos c,decide_eq_true c];simp
 ·rw [if_neg c,decide_eq_false c];simp
theorem Jb (size:Nat)(b:List UInt8):(List.replicate size (Value.int .u8 0)).take 0++(ak b).take (min b.length size)++(List.replicate size (Value.int .u8 0)).drop (0+min b.length size)=ak (dH size b):=G1 size b
theorem ZG {b x:List UInt8}{size a:Nat}(h:a+x.length<=size):(ak (dH size b)).take a++(ak x).take (min x.length (size - a))++(ak (dH size b)).drop (a+min x.length (size - a))=ak (Lp b size a x):=by
 rw [Nat.min_eq_left oZ,aL,aL,aY,List.take_of_length_le (Nat.le_refl _),<-aE,<-aE];rfl
end Go.Sl
namespace Go.Proofs.YteldablklnfblaaGreatDoor
open Go.Sl
section
variable {X:Cx}{f:Fx}{k:Kt}{e:Env}{Ls:List Chunk}{ops:List Oper}{Ms:List Chunk}{r':aA}{κ d:Nat}{t:TypeId}{x:Operand}
theorem WD.slE {b off:Nat}{m c lo hi mx s:Nat}{ol oh om:Option Operand}(hκ:calm κ=true)(hx:ev e x=some (.slice (some ⟨b,off,none⟩) m c))(hT:X.T.Ok X.P)(hs:Wh X.T t=some s)(hl:Bd e ol 0 lo)(hh:Bd e oh m hi)(hm:Bd e om c mx)(aQ:okB ol oh om=true)(h:lo=hi/\hi<=m/\hi=mx/\mx<=c)
  (g:WO X f ops k Ms r' ((d,.slice (some ⟨b,off,none⟩) 0 0) :: e) Ls):WD X f ops k Ms κ (some d) (.slice t x ol oh om) r' e Ls:=by
 obtain ⟨el,g1,g2⟩:=re hT hs
 obtain ⟨rfl,h2,rfl,h4⟩:=h
 have hv:sliced (some ⟨b,off,none⟩) lo lo lo s = .slice (some ⟨b,off,none⟩) 0 0:=by simp [sliced]
 exact .rd hκ (fun o a w ho E _=>hv ▸ zz E ho hx g1 g2 hl hh hm aQ (Nat.le_refl _) (Nat.le_refl _) h4) g
theorem gve {G H:Prop}(k:H)(h:gG H->G:=by
 intro kk;refine go ?_;refine WO.dec rfl ?_
 apply WD.slE;exact rfl;exact rfl;exact aB;exact rfl;exact Mj;exact Mj;exact Mj;exact rfl;exact lens;exact kk.out):G:=h ⟨k⟩
end
set_option maxRecDepth 10000
set_option maxHeartbeats 4000000
section
variable (a:Nat)(l:List au)(aQ:mO l)(txg note room:Nat)(eQ:room<=100000)(vG vS:Value)(ad:Option Addr)(c:Nat)(D O:Chunk)(hD:Rd D 130 (.slice ad l.length c) l.length (l.flatMap au.lay))(hO:Ed O l)
theorem Er (k x:Int)(gh:Option Addr)(m cb:Nat)(h:¬(1<=k/\k<=112)\/x<0\/65536<x\/65536 - x<m):Ct 43 [ptr a,.int .i64 k,.int .i64 x,.slice gh m cb] [] fun u Bs=>u = .int .i64 1/\Bs=[]:=by
 have hn:=cB k
 refine st Tryz.func43 fun w0 => ?_
 refine gc hn ?_
 rintro _ _ ⟨rfl,rfl⟩
 by_cases hk:1<=k/\k<=112
 ·rw [decide_eq_true hk]
  have h:=h.resolve_left (fun c=>c hk)
  by_cases hx:x<0
  ·refine gz ?_
   exact fin ⟨rfl,rfl⟩ aa
  ·have h:=h.resolve_left hx
   by_cases YI:65536<x
   ·refine gz ?_
    exact fin ⟨rfl,rfl⟩ aa
   ·have h:=h.resolve_left YI
    have hs:IntKind.i64.wrap (65536 - x)=65536 - x:=IntWalk.i64_in _ oZ
    refine gz ?_
    exact fin ⟨rfl,rfl⟩ aa
 ·rw [decide_eq_false hk]
  refine gz ?_
  exact fin ⟨rfl,rfl⟩ aa
include aQ hD hO eQ
omit eQ hD in
theorem ZH (k:Nat):(∃j8 cv,(kU l k).v = .slice j8 (kU l k).b.length cv/\(kU l k).b.length<=cv)/\Rd O 1 (kU l k).v (kU l k).b.length (ak (kU l k).b)/\(kU l k).b.length<=65536:=by
 unfold kU
 cases h:ey l k with
 | none=>exact ⟨⟨none,0,rfl,Nat.le_refl _⟩,Rd.nil _ _,Nat.zero_le _⟩
 | some o =>
  have hm:=(fh h).1
  exact ⟨(hO o hm).1,(hO o hm).2,aQ.sm o hm⟩
theorem yN (k:Nat)(hk:1<=k/\k<=112)(x m:Nat)(TI:x+m<=65536)(B:Chunk)(gh:Option Addr)(cb:Nat)(b:List UInt8)(dr:b.length=m)(hB:Rd B 1 (.slice gh m cb) m (ak b))(Hd:m<=cb) :
  Ct 43 [ptr a,.int .i64 k,.int .i64 x,.slice gh m cb] [[(a,eM (.slice ad l.length c) txg note room vG vS)],D,O,B] fun u Bs=>(cA l k (max (kU l k).b.length (x+m)) room=false/\u = .int .i64 3/\Bs=[[(a,eM (.slice ad l.length c) txg note room vG vS)],D,O,B])\/(cA l k (max (kU l k).b.length (x+m)) room=true/\u = .int .i64 0/\∃v l' ba c' D' E,l'=dF { kU l k with b:=Lp (kU l k).b (max (kU l k).b.length (x+m)) x b,gE:=qm (kU l k) x m,v:=v } false l/\Ed (O++E) l' /\
   az D' 72 130 (.slice ba l'.length c') l'.length (l'.flatMap au.lay)/\Bs=[[(a,eM (.slice ba l'.length c') txg note room vG vS)],D',O,E,B]):=by
 have hn:=cB k
 rw [decide_eq_true oZ] at hn
 have gA:=qf a l aQ txg note room vG vS ad c D hD k
 have bE:=fun size hs=>AA a l aQ txg note room vG vS ad c D O hD hO k size hs eQ
 have bL:=fun o hv=>Hb a l aQ txg note room vG vS ad c D hD o hv (fun x hx=>by obtain ⟨⟨ad,c,hv, -⟩, -⟩:=hO x hx;rw [hv];rfl)
 obtain ⟨⟨j8,cv,hv,R3⟩,MG,Bm⟩:=ZH l aQ O hO k
 have abT:ey l k=none->Hc k=kU l k:=fun h=>by unfold kU;rw [h];rfl
 have abU:∀o,ey l k=some o->o=kU l k:=fun o h=>by unfold kU;rw [h];rfl
 have jw:=hD
 have nP:=aQ.jY
 obtain ⟨o,ho⟩:∃o,o=kU l k:=⟨_,rfl⟩
 rw [<-ho] at hv R3 MG Bm abT abU ⊢
 have GO:=o.aj
 have fG:=o.bC (by rw [hv];rfl)
 have XO:o.lay[1]? = some (.slice j8 o.b.length cv):=by rw [<-hv];exact au.rM _
 rw [hv] at MG
 refine st Tryz.func43 fun w0 => ?_
 refine gc hn ?_
 rintro _ _ ⟨rfl,rfl⟩
 have hs:IntKind.i64.wrap (65536 - (x:Int))=((65536 - x:Nat):Int):=by rw [IntWalk.i64_in _ oZ];omega
 refine ga ?_;intro xc
 refine gc gA ?_
 rintro _ _ ⟨⟨rfl,hn⟩ | ⟨i,o',rfl,hi,hn⟩,rfl⟩
 case' inl =>
  have e:=abT hn
  rw [<-wA,e]
 case' inr =>
  have e:=abU _ hn
  have bm:=(List.getElem?_eq_some_iff.1 hi).1
  obtain ⟨gD,off,rfl⟩:=jw.addr oZ
  have hs:=ar au.aj l i o' hi
  rw [e] at hs
  have Mo:=(Hc k).aj
  rw [<-wA]
 all_goals
  obtain ⟨z,hz⟩:∃z,z=max o.b.length (x+m):=⟨_,rfl⟩
  rw [<-hz]
  have ZI:=bE z oZ
  refine gi ?_ ?_ <;> intro FE
  case' refine_1 =>
   have Iw:x+m=z:=by omega
   refine go ?_
   rw [Iw]
  case' refine_2 =>
   have Iw:o.b.length=z:=by omega
   rw [Iw]
  all_goals
   cases Jc:cA l k z room with
   | false =>
    rw [Jc] at ZI
    refine gc ZI ?_
    rintro _ _ ⟨rfl,rfl⟩
    refine gz ?_
    exact fin (.inl ⟨rfl,rfl,rfl⟩) aa
   | true =>
    rw [Jc] at ZI
    refine gc ZI ?_
    rintro _ _ ⟨rfl,rfl⟩
    have abV:=Jb z o.b
    have mw:(ak (dH z o.b)).length=z:=by rw [ai,dR]
    obtain ⟨nb,Bo⟩:∃nb,nb=Lp o.b z x b:=⟨_,rfl⟩
    have Qc:nb.length=z:=by rw [Bo];exact Ja oZ
    rw [<-Bo]
    refine gm ?_;intro g14
    refine gy ?_
    by_cases GZ:x<z\/x=0
    case' pos =>
     have UA:=ZG (b:=o.b) (x:=b) (size:=z) (a:=x) oZ
     rw [dr,<-Bo] at UA
     refine gv ?_
     refine gy ?_
    case' neg =>
     have I8:b=[]:=List.eq_nil_of_length_eq_zero oZ
     have UA:(ak (dH z o.b)).take 0++(ak b).take (min m 0)++(ak (dH z o.b)).drop (0+min m 0)=ak nb:=by
      rw [Bo,I8,Lp,Nat.min_zero];simp
     refine gve ?_
     refine gy ?_
    all_goals
     obtain ⟨ob,Lo⟩:∃ob:Nat->au,ob=fun j=>{ o with b:=nb,gE:=qm o x j,v:=.slice (some ⟨g14,0,none⟩) z z }:=⟨_,rfl⟩
     have e0:o.lay.set 1 (.slice (some ⟨g14,0,none⟩) z z)=(ob 0).lay:=by rw [au.Ul,<-au.W6 _ nb,Lo];simp only [Lq]
     have e1:∀j,x+j<65536->(ob j).lay.set (66+(x+j) / 1024) (.bool true)=(ob (j+1)).lay:=fun j hj=>by rw [au.tN _ oZ,Lo];simp only [Lr]
     have ZJ:∀j,(ob j).lay.length=130:=fun j=>au.aj _
     have Qd:∀j,ob j={ o with b:=nb,gE:=qm o x j,v:=.slice (some ⟨g14,0,none⟩) z z }:=fun j=>by rw [Lo]
     clear Lo
     refine go ?_
     rw [e0]
     refine gl [0,2,3,10] (fun (j:Nat)=>[(15,.int .i64 j)]) (fun j=>[[(xc,ax (ob j).lay 72)]]) (fun j=>j<=m) (fun j=>m - j) 0 oZ ?_
     intro j hj
     have hoj:=ZJ j
     by_cases bo:j<m
     ·have e1:=e1 j oZ
      first | (exfalso;omega) | (refine gn ?_;rw [e1];exact ⟨j+1,by omega,by omega,aq,_,aa⟩)
     ·obtain rfl:j=m:=by omega
      have hpj:=bL (ob j) (by rw [Qd];rfl)
      refine gc hpj ?_
      rintro _ _ ⟨ba,c',D',eo,rfl⟩
      refine gz ?_
      refine fin (.inr ⟨rfl,rfl,.slice (some ⟨g14,0,none⟩) z z,dF (ob j) false l,ba,c',D',[(g14,ax (ak nb) 5)],by rw [Qd],fun q hq => ?_,eo,rfl⟩) aa
      rcases kT hq with rfl | hq
      ·rw [Qd]
       simp only [Qc]
       exact ⟨⟨_,z,rfl,Nat.le_refl _⟩,(av (by rw [ai,Qc,Nat.mul_one]) (aK _) oZ z).sub fun y hy=>List.mem_append_right _ hy⟩
      ·exact ⟨(hO q hq).1,(hO q hq).2.sub fun y hy=>List.mem_append_left _ hy⟩
end
end Go.Proofs.YteldablklnfblaaGreatDoor
namespace Go.Sl
def xJ (o:au)(z n:Nat):au:={ o with gE:=fun j=>if j<n then (if z<=1024*j then false else if z<1024*j+1024 then true else o.gE j) else o.gE j,born:=fun j=>if j<n/\z<=1024*j then 0 else o.born j }
def W7 (o:au)(z:Nat):au:=if z<o.b.length then xJ o z 64 else o
theorem Qe (o:au)(z:Nat):xJ o z 0=o:=by
 cases o
 simp [xJ]
theorem abW {o:au}{z n:Nat}(hn:n<64)(h:z<=1024*n):((xJ o z n).lay.set (66+n) (.bool false)).set (2+n) (.int .u64 0)=(xJ o z (n+1)).lay:=by
 rw [au.tN _ hn]
 refine (au.wk _ hn 0).trans ?_
 congr 1
 simp only [xJ,au.mk.injEq,true_and,and_true]
 refine ⟨?_, ?_⟩ <;> funext j <;> try simp only [upd]
 ·by_cases c:j=n
  ·subst c;rw [if_pos rfl,if_pos ⟨by omega,h⟩]
  ·rw [if_neg c]
   by_cases d:j<n/\z<=1024*j
   ·rw [if_pos d,if_pos ⟨by omega,d.2⟩]
   ·rw [if_neg d,if_neg oZ]
 ·by_cases c:j=n
  ·subst c;rw [if_pos rfl,if_pos oZ,if_pos h]
  ·rw [if_neg c]
   by_cases d:j<n
   ·rw [if_pos d,if_pos (show j<n+1 by omega)]
   ·rw [if_neg d,if_neg oZ]
theorem abX {o:au}{z n:Nat}(hn:n<64)(h:¬z<=1024*n)(h2:z<1024*n+1024):(xJ o z n).lay.set (66+n) (.bool true)=(xJ o z (n+1)).lay:=by
 rw [au.tN _ hn]
 congr 1
 simp only [xJ,au.mk.injEq,true_and,and_true]
 refine ⟨?_, ?_⟩ <;> funext j <;> try simp only [upd]
 ·by_cases c:j=n
  ·subst c;rw [if_neg oZ,if_neg oZ]
  ·by_cases d:j<n/\z<=1024*j
   ·rw [if_pos d,if_pos ⟨by omega,d.2⟩]
   ·rw [if_neg d,if_neg oZ]
 ·by_cases c:j=n
  ·subst c;rw [if_pos rfl,if_pos oZ,if_neg h,if_pos h2]
  ·rw [if_neg c]
   by_cases d:j<n
   ·rw [if_pos d,if_pos (show j<n+1 by omega)]
   ·rw [if_neg d,if_neg oZ]
theorem abY {o:au}{z n:Nat}(h2:¬z<1024*n+1024):xJ o z n=xJ o z (n+1):=by
 simp only [xJ,au.mk.injEq,true_and,and_true]
 refine ⟨?_, ?_⟩ <;> funext j
 ·by_cases d:j<n/\z<=1024*j
  ·rw [if_pos d,if_pos ⟨by omega,d.2⟩]
  ·rw [if_neg d,if_neg oZ]
 ·by_cases c:j=n
  ·subst c;rw [if_neg oZ,if_pos oZ,if_neg oZ,if_neg h2]
  ·by_cases d:j<n
   ·rw [if_pos d,if_pos (show j<n+1 by omega)]
   ·rw [if_neg d,if_neg oZ]
end Go.Sl
namespace Go.Proofs.YteldablklnfblaaGreatDoor
open Go.Sl
set_option maxRecDepth 10000
set_option maxHeartbeats 4000000
section
variable (a:Nat)(l:List au)(aQ:mO l)(txg note room:Nat)(eQ:room<=100000)(vG vS:Value)(ad:Option Addr)(c:Nat)(D O:Chunk)(hD:Rd D 130 (.slice ad l.length c) l.length (l.flatMap au.lay))(hO:Ed O l)
theorem Es (k z:Int)(h:¬(1<=k/\k<=112)\/z<0\/65536<z):Ct 45 [ptr a,.int .i64 k,.int .i64 z] [] fun u Bs=>u = .int .i64 1/\Bs=[]:=by
 have hn:=cB k
 refine st Tryz.func45 fun w0 => ?_
 refine gc hn ?_
 rintro _ _ ⟨rfl,rfl⟩
 by_cases hk:1<=k/\k<=112
 ·rw [decide_eq_true hk]
  have h:=h.resolve_left (fun c=>c hk)
  by_cases hx:z<0
  ·refine gz ?_
   exact fin ⟨rfl,rfl⟩ aa
  ·have h:=h.resolve_left hx
   refine gz ?_
   exact fin ⟨rfl,rfl⟩ aa
 ·rw [decide_eq_false hk]
  refine gz ?_
  exact fin ⟨rfl,rfl⟩ aa
include aQ hD hO eQ
theorem rT (k:Int)(hk:1<=k/\k<=112)(z:Nat)(hz:z<=65536) :
  Ct 45 [ptr a,.int .i64 k,.int .i64 z] [[(a,eM (.slice ad l.length c) txg note room vG vS)],D,O] fun u Bs=>(ey l k=none/\u = .int .i64 130/\Bs=[[(a,eM (.slice ad l.length c) txg note room vG vS)],D,O])\/∃o,ey l k=some o/\((cA l k z room=false/\u = .int .i64 3/\Bs=[[(a,eM (.slice ad l.length c) txg note room vG vS)],D,O])\/(cA l k z room=true/\u = .int .i64 0/\∃v l' ba c' D' E,l'=dF { W7 o z with b:=dH z o.b,v:=v } false l/\Ed (O++E) l' /\
   az D' 72 130 (.slice ba l'.length c') l'.length (l'.flatMap au.lay)/\Bs=[[(a,eM (.slice ba l'.length c') txg note room vG vS)],D',O,E])):=by
 have hn:=cB k
 rw [decide_eq_true oZ] at hn
 have gA:=qf a l aQ txg note room vG vS ad c D hD k
 have bE:=AA a l aQ txg note room vG vS ad c D O hD hO k z hz eQ
 have bL:=fun o hv=>Hb a l aQ txg note room vG vS ad c D hD o hv (fun x hx=>by obtain ⟨⟨ad,c,hv, -⟩, -⟩:=hO x hx;rw [hv];rfl)
 have jw:=hD
 have nP:=aQ.jY
 refine st Tryz.func45 fun w0 => ?_
 refine gc hn ?_
 rintro _ _ ⟨rfl,rfl⟩
 refine gc gA ?_
 rintro _ _ ⟨⟨rfl,hn⟩ | ⟨i,o,rfl,hi,hn⟩,rfl⟩
 ·refine gz ?_
  exact fin (.inl ⟨hn,rfl,rfl⟩) aa
 ·have bm:=(List.getElem?_eq_some_iff.1 hi).1
  have qR:=List.mem_of_getElem? hi
  have Bm:=aQ.sm o qR
  obtain ⟨⟨j8,cv,hv,R3⟩,MG⟩:=hO o qR
  rw [hv] at MG
  obtain ⟨gD,off,rfl⟩:=jw.addr oZ
  have hs:=ar au.aj l i o hi
  have GO:=o.aj
  have fG:=o.bC (by rw [hv];rfl)
  have XO:o.lay[1]? = some (.slice j8 o.b.length cv):=by rw [<-hv];exact au.rM _
  refine gc bE ?_
  rintro _ _ ⟨rfl,rfl⟩
  cases Jc:cA l k z room with
  | false =>
   refine gz ?_
   exact fin (.inr ⟨o,hn,.inl ⟨rfl,rfl,rfl⟩⟩) aa
  | true =>
   have abV:=Jb z o.b
   obtain ⟨nb,Bo⟩:∃nb,nb=dH z o.b:=⟨_,rfl⟩
   have Qc:nb.length=z:=by rw [Bo];exact dR ..
   rw [<-Bo] at abV
   refine ga ?_;intro xc
   refine gm ?_;intro g11
   refine gy ?_
   have hT1:∀n,(xJ o z n).lay[1]? = some (.slice j8 o.b.length cv):=fun n=>by rw [<-hv];exact au.rM _
   have hTl:∀n,(xJ o z n).lay.length=130:=fun n=>au.aj _
   obtain ⟨oe,W8⟩:∃oe,oe=W7 o z:=⟨_,rfl⟩
   refine gi ?_ ?_ <;> intro hsh
   case' refine_1 =>
    have he:W7 o z=xJ o z 64:=if_pos oZ
    have hq:=W8.trans he
    rw [show o.lay=(xJ o z 0).lay by rw [Qe]]
    refine gl [0,1,2,10,11] (fun (j:Nat)=>[(12,.int .i64 j)]) (fun j=>[[(xc,ax (xJ o z j).lay 72)]]) (fun j=>j<=64) (fun j=>64 - j) 0 oZ ?_
    intro j hj
    have hTj:=hTl j
    refine gi ?_ ?_ <;> intro bo
    ·have abZ:j<64:=by omega
     refine gi ?_ ?_ <;> intro hc
     ·have e:=abW (o:=o) (z:=z) abZ oZ
      have hT2:((xJ o z j).lay.set (66+j) (.bool false)).length=130:=by rw [List.length_set];exact hTj
      refine gn ?_
      rw [e]
      exact ⟨j+1,by omega,by omega,aq,_,aa⟩
     ·refine gi ?_ ?_ <;> intro WG
      ·have e:=abX (o:=o) (z:=z) abZ oZ oZ
       refine gn ?_
       rw [e]
       exact ⟨j+1,by omega,by omega,aq,_,aa⟩
      ·have e:=abY (o:=o) (z:=z) (n:=j) oZ
       refine gn ?_
       rw [e]
       exact ⟨j+1,by omega,by omega,aq,_,aa⟩
    obtain rfl:j=64:=by omega
    rw [<-hq]
   case' refine_2 =>
    have he:W7 o z=o:=if_neg oZ
    have hq:=W8.trans he
    rw [show o.lay=oe.lay by rw [hq]]
   all_goals
    have JF:=oe.aj
    have e1:oe.lay.set 1 (.slice (some ⟨g11,0,none⟩) z z)=({ oe with b:=nb,v:=.slice (some ⟨g11,0,none⟩) z z }:au).lay:=by rw [au.Ul,<-au.W6 _ nb]
    have hpj:=bL { oe with b:=nb,v:=.slice (some ⟨g11,0,none⟩) z z } rfl
    have aet:=({ oe with b:=nb,v:=.slice (some ⟨g11,0,none⟩) z z }:au).aj
    refine go ?_
    rw [e1]
    refine gc hpj ?_
    rintro _ _ ⟨ba,c',D',eo,rfl⟩
    refine gz ?_
    refine fin (.inr ⟨_,hn,.inr ⟨rfl,rfl,.slice (some ⟨g11,0,none⟩) z z,_,ba,c',D',[(g11,ax (ak nb) 5)],by rw [W8,Bo],fun q hq => ?_,eo,rfl⟩⟩) aa
    rcases kT hq with rfl | hq
    ·simp only [Qc]
     exact ⟨⟨_,z,rfl,Nat.le_refl _⟩,(av (by rw [ai,Qc,Nat.mul_one]) (aK _) oZ z).sub fun y hy=>List.mem_append_right _ hy⟩
    ·exact ⟨(hO q hq).1,(hO q hq).2.sub fun y hy=>List.mem_append_left _ hy⟩
end
end Go.Proofs.YteldablklnfblaaGreatDoor
namespace Go.Sl
theorem sK {L:List au}{r:List Value}{i:Nat}{o:au}(h:L[i]? = some o){j:Nat}{v:Value}(hv:o.lay[j]? = some v):(L.flatMap au.lay++r)[i*130+j]? = some v:=by
 have hs:=ar au.aj L i o h j v hv
 rw [List.getElem?_append_left (List.getElem?_eq_some_iff.1 hs).1]
 exact hs
theorem jc {r:List Value}{j:Nat}{v:Value}{o o':au}(hj:j<130)(e:o.lay.set j v=o'.lay):∀ {L:List au} {i:Nat},L[i]? = some o->(L.flatMap au.lay++r).set (i*130+j) v=(L.set i o').flatMap au.lay++r
 | [],i,h=>by simp at h
 | x :: l,0,h=>by
  have:x=o:=by simpa using h
  subst this
  rw [Nat.zero_mul,Nat.zero_add,List.set_cons_zero,List.flatMap_cons,List.flatMap_cons,List.append_assoc,List.append_assoc,List.set_append_left _ _ (by rw [au.aj];exact hj),e]
 | x :: l,i+1,h=>by
  have ih:=jc (r:=r) hj e (L:=l) (i:=i) (by simpa using h)
  rw [List.set_cons_succ,List.flatMap_cons,List.flatMap_cons,List.append_assoc,List.append_assoc,<-ih,List.set_append_right _ _ (by rw [au.aj];omega),au.aj,show (i+1)*130+j - 130=i*130+j by omega]
theorem fw {x:List UInt8}:bp x=true↔∀y∈x,y=0:=by
 unfold bp
 rw [decide_eq_true_iff,List.eq_replicate_iff]
 simp
theorem AG (L:List au)(r:List Value):(L.flatMap au.lay++r).length=L.length*130+r.length:=by rw [List.length_append,fN au.aj]
end Go.Sl
namespace Go.Proofs.YteldablklnfblaaGreatDoor
open Go.Sl
set_option maxRecDepth 10000
set_option maxHeartbeats 4000000
def Jd (D:Chunk)(v:Value)(n:Nat)(xs:List Value):Prop:=Rd D 130 v n xs/\(n=0\/∃g c r,v = .slice (some ⟨g,0,none⟩) n c/\D=[(g,ax (xs++r) 72)])
theorem Jd.of {D:Chunk}{v:Value}{n:Nat}{xs:List Value}(h:az D 72 130 v n xs):Jd D v n xs:=by
 refine ⟨h.rd, ?_⟩
 rcases h.2.2 with ⟨-,h, -⟩ | ⟨g,c,r,h1,h2, -⟩
 ·exact .inl h
 ·exact .inr ⟨g,c,r,h1,h2⟩
theorem Lt (v:Value)(O:Chunk)(b:List UInt8)(n:Nat)(hb:b.length=n)(hR:Rd O 1 v n (ak b)):Ct 113 [v] [O] fun u Bs=>u = .bool (bp b)/\Bs=[O]:=by
 obtain ⟨ad,c,rfl⟩:=hR.slice
 have Gf:=hR.2.2.1
 simp only [maxLen] at Gf
 refine st Tryz.func113 fun w0 => ?_
 refine gl [0] (fun (i:Nat)=>[(3,.int .i64 i)]) (fun _=>[]) (fun i=>i<=n/\∀x∈b.take i,x=0) (fun i=>n - i) 0 ⟨by omega,by simp⟩ ?_
 rintro i ⟨hi,h0⟩
 refine gi ?_ ?_ <;> intro bo
 ·have bm:i<b.length:=by omega
  obtain ⟨g,o,rfl⟩:=hR.addr oZ
  have hx:b[i]? = some b[i]:=List.getElem?_eq_getElem bm
  refine gi ?_ ?_ <;> intro eL
  ·have e:bp b=false:=by
    rw [Bool.eq_false_iff]
    intro hc
    have:=(fw.1 hc) b[i] (List.getElem_mem _)
    rw [this] at eL
    simp at eL
   rw [e]
   refine gz ?_
   exact fin ⟨rfl,rfl⟩ aa
  ·have hz:b[i]=0:=by
    have:b[i].toNat=0:=by simpa using eL
    exact UInt8.toNat_inj.1 (by simpa using this)
   refine gn ?_
   refine ⟨i+1,⟨by omega,fun x hx => ?_⟩,by omega,aq,_,aa⟩
   rw [aG b bm] at hx
   rcases List.mem_append.1 hx with hx | hx
   ·exact h0 x hx
   ·rw [List.mem_singleton.1 hx];exact hz
 ·obtain rfl:i=n:=by omega
  rw [List.take_of_length_le oZ] at h0
  have e:bp b=true:=fw.2 h0
  rw [e]
  refine gz ?_
  exact fin ⟨rfl,rfl⟩ aa
end Go.Proofs.YteldablklnfblaaGreatDoor
