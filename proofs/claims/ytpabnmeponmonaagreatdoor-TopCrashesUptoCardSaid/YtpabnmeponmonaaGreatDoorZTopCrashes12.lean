/-
  12.
-/
import Derived.Test.YtpabnmeponmonaaGreatDoorZTopCrashes11
set_option maxRecDepth 10000
set_option maxHeartbeats 4000000
open List Go.Proofs.Tryz Go.Sl
namespace Go.Sl
structure Mf (R:Rk)(ls:List (Option Lv))(pr:Bool)(n:Nat)(x:Pt)(b:List UInt8):Prop where
 cJ:x.cJ
 ok:x.Ok
 top:x.top=0
 len:x.bytes=b.length
 bd:1<=b.length/\b.length<=1024
 fit:x.at_+aL pr ls.length b.length<=bD pr ls.length n
 sum:tS x.kind ⟨x.a,x.b,x.c,x.d⟩ b=true
 has:wQ pr R ls x.at_.toNat b
theorem QJ {n:Nat}{b:List UInt8}:dV n b=b.take (min b.length n)++replicate (n - min b.length n) 0:=by
 unfold dV
 rcases Nat.le_total b.length n with h | h
 ·rw [Nat.min_eq_left h,take_of_length_le h,take_of_length_le (Nat.le_refl _)]
 ·rw [Nat.min_eq_right h,show n - b.length=0 by omega,Nat.sub_self]
theorem HJ (L:Nat)(b:List UInt8):(replicate L (Value.int .u8 0)).take 0++(au b).take (min b.length L)++(replicate L (Value.int .u8 0)).drop (0+min b.length L)=au (dV L b):=by
 rw [QJ,aG,aQ,take_zero,nil_append,Nat.zero_add,drop_replicate]
 congr 1
 simp [au]
end Go.Sl
namespace Go.Proofs.YtpabnmeponmonaaGreatDoor
theorem Vi (a:Nat)(u:Bool)(n:Nat)(hn:n<=65536)(x:Pt)(vP vI:Value)(r:Nat)(cl:Bool)(i:Nat)(hi:i<=100000):Ct 149 [ptr a,.int .i64 i] [[(a,yx u n x vP vI r cl)]] fun v Bs=>v = .int .i64 (aV n i)/\Bs=[[(a,yx u n x vP vI r cl)]]:=by
 have hw:IntKind.i64.wrap ((n:Int) - ((i*1024:Nat):Int))=(n:Int) - ((i*1024:Nat):Int):=IntWalk.i64_in _ oZ
 refine st func149 fun w0 => ?_
 refine go ?_
 rw [show max (0:Int) (min 1024 ((n:Int) - ((i*1024:Nat):Int)))=((aV n i:Nat):Int) by unfold aV;omega]
 refine gz ?_
 exact fin ⟨rfl,rfl⟩ aa
section
variable (s tk:Nat)(vA:Value)(ra rd ae note:Nat)(LA:List (Int×Value))(CA:Chunk)(hA:Mp ra .i64 LA CA)
theorem lB (k:Int)(hk:¬(1<=k/\k<=112)):Ct 82 [ptr s,.int .i64 k] [[(s,bU tk vA ra rd ae note)]] fun u Bs=>u = .tuple #[.pointer none,.int .i64 1]/\Bs=[[(s,bU tk vA ra rd ae note)]]:=by
 have hh:=j1 k
 rw [decide_eq_false hk] at hh
 refine st func82 fun w0 => ?_
 refine gc hh ?_
 rintro _ _ ⟨rfl,rfl⟩
 refine gz ?_
 exact fin ⟨rfl,rfl⟩ aa
include hA
theorem og (k:Int)(hk:1<=k/\k<=112)(hl:kx LA k=none):Ct 82 [ptr s,.int .i64 k] [[(s,bU tk vA ra rd ae note)],CA] fun u Bs=>u = .tuple #[.pointer none,.int .i64 130]/\Bs=[[(s,bU tk vA ra rd ae note)],CA]:=by
 have hh:=j1 k
 rw [decide_eq_true hk] at hh
 refine st func82 fun w0 => ?_
 refine gc hh ?_
 rintro _ _ ⟨rfl,rfl⟩
 refine gz ?_
 exact fin ⟨rfl,rfl⟩ aa
theorem mg (k:Int)(hk:1<=k/\k<=112)(a:Nat)(hl:kx LA k=some (ptr a)):Ct 82 [ptr s,.int .i64 k] [[(s,bU tk vA ra rd ae note)],CA] fun u Bs=>u = .tuple #[ptr a,.int .i64 0]/\Bs=[[(s,bU tk vA ra rd ae note)],CA]:=by
 have hh:=j1 k
 rw [decide_eq_true hk] at hh
 refine st func82 fun w0 => ?_
 refine gc hh ?_
 rintro _ _ ⟨rfl,rfl⟩
 refine gz ?_
 exact fin ⟨rfl,rfl⟩ aa
end
section
variable (T:TypeId)(fr:Nat×Nat)(p:Nat)(qs:List Nat)(t pool:Nat)(tp:Tp)(pr:Bool)(n:Nat)(ls:List (Option Lv))(no:Nat)(V:Chunk)(hV:iZ t pool tp pr n ls no V)(ok:dj tp pr n ls.length)(R:Rk)(C:Chunk)(hC:bj p qs R C)(ho:dE qs R n ls)(hall:∀x∈ls,x≠none)(db:R.off=false)
variable (s:Nat)(vA:Value)(ra rd ae note:Nat)
include hV ok hC ho hall db
theorem QK (x:Pt)(b:List UInt8)(h:Mf R ls pr n x b):Ct 150 [ptr t,x.agg] [gK T fr,C,V] fun u Bs=>∃ad O,u = .tuple #[.slice ad b.length b.length,.int .i64 0]/\Rd O 1 (.slice ad b.length b.length) b.length (au b)/\Bs=[O,gK T fr,C,V]:=by
 have hg:=h.cJ
 have ha:x.at_=(x.at_.toNat:Nat):=by have:=hg.2.2.1;omega
 exact UQ T fr p qs t pool tp pr n ls no V hV ok R C hC ho hall db x hg h.top x.at_.toNat ha b b.length rfl h.len (by have:=h.fit;omega) h.sum h.has
theorem rb (a:Nat)(o:Ob)(bu:o.size<=65536)(A:Chunk)(hA:XU a o A)(i:Nat)(hi:i<=100)(dJ:Pt->List UInt8)(hl:∀x,o.aA[i]? = some x->x≠ai->Mf R ls pr n x (dJ x))(pv:∀e∈o.fresh,e.2.length<=1024) :
  Ct 83 [ptr s,ptr a,.int .i64 i] [[(s,bU t vA ra rd ae note)],gK T fr,C,V,A] fun u Bs=>∃g,u = .tuple #[.slice (some ⟨g,0,none⟩) (aV o.size i) (aV o.size i),.int .i64 0]/\Bs=[[(g,ax (au (o.gB dJ i)) 5)],[(s,bU t vA ra rd ae note)],gK T fr,C,V,A]:=by
 obtain ⟨jM,cP,DP,eb,cI,DI,r,LF,CF,VF,hP,hI,hM,hF,rfl⟩:=hA
 have dP:=Vi a o.used o.size bu o.root (.slice jM o.aA.length cP) (.slice eb o.index.length cI) r o.clean i oZ
 have hL:aV o.size i<=1024:=by unfold aV;omega
 have XV:=hP.rd
 have Ek:=HJ (aV o.size i) (o.raw dJ i)
 have UD:Rd (gK T fr) 1 (.slice none 0 0) 0 (au []):=Rd.nil _ _
 have ag4:=HJ (aV o.size i) []
 have hrl:∀x:Pt,o.aA[i]? = some x->aJ o.fresh i=none->o.raw dJ i=if x=ai then [] else dJ x:=fun x hx hf=>by unfold Ob.raw;rw [hf];simp only;rw [hx]
 unfold Ob.gB
 generalize aV o.size i=L at *
 refine st func83 fun w0 => ?_
 refine gs ?_
 refine gc dP ?_
 rintro _ _ ⟨rfl,rfl⟩
 refine gm ?_;intro g
 rcases hF.look i with ⟨uk,jK, -⟩ | ⟨v,b,V1,D,V2,uk,jK,rfl,hD, -, -⟩
 ·by_cases bh:i<o.aA.length
  ·obtain ⟨x,hx⟩:∃x,o.aA[i]? = some x:=⟨_,getElem?_eq_getElem bh⟩
   have hr:=hrl x hx jK
   have hs:=av Pt.ak o.aA i _ hx
   obtain ⟨gP,oP,rfl⟩:=XV.addr oZ
   by_cases hz:x=ai
   ·rw [if_pos hz] at hr
    rw [hr]
    subst hz
    refine gy ?_
    refine gz ?_
    exact fin ⟨g,rfl,rfl⟩ aa
   ·rw [if_neg hz] at hr
    have QL:=hl x hx hz
    have qd:=QK T fr p qs t pool tp pr n ls no V hV ok R C hC ho hall db x (dJ x) QL
    rw [hr] at Ek
    rw [hr]
    have Lq:=QL.bd
    refine gi ?_ ?_ <;> intro ey
    ·refine gd [0,4,8,12,16,20,24,28,32,36,40,47,50,54,58,62,66] ?_
     refine gc qd ?_
     rintro _ _ ⟨adO,O,rfl,hO,rfl⟩
     refine gy ?_
     refine gz ?_
     exact fin ⟨g,rfl,rfl⟩ aa
    ·exact absurd ((Pt.ext_iff x ai).2 (by simpa [ai] using ey)) hz
  ·have hr:o.raw dJ i=[]:=by unfold Ob.raw;rw [jK];simp only;rw [getElem?_eq_none oZ]
   rw [hr]
   refine gy ?_
   refine gz ?_
   exact fin ⟨g,rfl,rfl⟩ aa
 ·have hr:o.raw dJ i=b:=by unfold Ob.raw;rw [jK]
  have hbb:=pv _ (aI jK)
  rw [hr] at Ek
  rw [hr]
  obtain ⟨mJ,cb,rfl⟩:=hD.slice
  have jW:=hD.rd
  refine gs ?_
  refine gy ?_
  refine gz ?_
  exact fin ⟨g,rfl,rfl⟩ aa
end
end Go.Proofs.YtpabnmeponmonaaGreatDoor
namespace Go.Sl
structure aw where
 no:Nat
 b:List UInt8
 born:Nat->Nat
 ik:Nat->Bool
 v:Value
def mE (f:Nat->Nat):List Value:=(List.range 64).map fun k=>.int .u64 (f k)
def yy (f:Nat->Bool):List Value:=(List.range 64).map fun k=>.bool (f k)
def aw.lay (o:aw):List Value:=.int .i64 o.no :: o.v :: (mE o.born++yy o.ik)
def upd {α:Type}(f:Nat->α)(k:Nat)(x:α)(j:Nat):α:=if j=k then x else f j
theorem lC (f:Nat->Nat):(mE f).length=64:=by simp [mE]
theorem QM (f:Nat->Bool):(yy f).length=64:=by simp [yy]
theorem aw.ak (o:aw):o.lay.length=130:=by simp [aw.lay,lC,QM]
theorem xh {α:Type}(g:α->Value)(f:Nat->α){k n:Nat}(x:α):((List.range n).map fun k=>g (f k)).set k (g x)=(List.range n).map fun j=>g (upd f k x j):=by
 apply ext_getElem (by simp)
 intro i h1 h2
 rw [getElem_set]
 simp only [getElem_map,getElem_range,upd]
 by_cases c:k=i
 ·subst c;simp
 ·rw [if_neg c,if_neg (fun h=>c h.symm)]
theorem Mg (f:Nat->Nat)(k x:Nat):(mE f).set k (.int .u64 x)=mE (upd f k x):=xh (fun x:Nat=>Value.int .u64 x) f x
theorem QN (f:Nat->Bool)(k:Nat)(x:Bool):(yy f).set k (.bool x)=yy (upd f k x):=xh Value.bool f x
theorem aw.QO (o:aw){k:Nat}(hk:k<64):o.lay[2+k]? = some (.int .u64 (o.born k)):=by
 have e:o.lay=[.int .i64 o.no,o.v]++(mE o.born++yy o.ik):=rfl
 rw [e,getElem?_append_right (by simp),getElem?_append_left (by rw [lC];simp;omega)]
 simp [mE,hk]
theorem aw.JM (o:aw){k:Nat}(hk:k<64):o.lay[66+k]? = some (.bool (o.ik k)):=by
 have e:o.lay=([.int .i64 o.no,o.v]++mE o.born)++yy o.ik:=rfl
 have h:([Value.int .i64 o.no,o.v]++mE o.born).length=66:=by simp [lC]
 rw [e,getElem?_append_right oZ,h]
 simp [yy,hk]
theorem aw.xi (o:aw){k:Nat}(hk:k<64)(x:Nat):o.lay.set (2+k) (.int .u64 x)=({ o with born:=upd o.born k x }:aw).lay:=by
 have e:o.lay=[.int .i64 o.no,o.v]++(mE o.born++yy o.ik):=rfl
 rw [e,set_append_right _ _ (by simp),show 2+k - [Value.int .i64 o.no,o.v].length=k by simp,set_append_left _ _ (by rw [lC];exact hk),Mg];rfl
theorem aw.uG (o:aw){k:Nat}(_:k<64)(x:Bool):o.lay.set (66+k) (.bool x)=({ o with ik:=upd o.ik k x }:aw).lay:=by
 have e:o.lay=([.int .i64 o.no,o.v]++mE o.born)++yy o.ik:=rfl
 have h:([Value.int .i64 o.no,o.v]++mE o.born).length=66:=by simp [lC]
 rw [e,set_append_right _ _ oZ,h,show 66+k - 66=k by omega,QN];rfl
theorem aw.bK (o:aw)(h:o.v.oneCell'=true):∀u∈o.lay,u.oneCell'=true:=fun u hu=>by
 simp only [aw.lay,List.mem_cons,List.mem_append] at hu
 rcases hu with rfl | rfl | hu | hu
 ·rfl
 ·exact h
 ·obtain ⟨x, -,rfl⟩:=mem_map.1 hu;rfl
 ·obtain ⟨x, -,rfl⟩:=mem_map.1 hu;rfl
theorem aw.Mh (o:aw):o.lay[0]? = some (.int .i64 o.no):=rfl
theorem aw.sU (o:aw):o.lay[1]? = some o.v:=rfl
theorem aw.afh (o:aw)(k:Nat):o.lay.set 0 (.int .i64 k)=({ o with no:=k }:aw).lay:=rfl
theorem aw.Vj (o:aw)(v:Value):o.lay.set 1 v=({ o with v:=v }:aw).lay:=rfl
attribute [irreducible] aw.lay
def eM (l:List aw)(k:Int):Option aw:=l.find? fun o=>(o.no:Int)==k
def aT (l:List aw):Nat:=(l.map fun o=>cost o.b.length).sum
def iU (l:List aw)(k:Int):Nat:=match eM l k with
 | some o=>cost o.b.length
 | none=>0
def cQ (l:List aw)(k:Int)(size room:Nat):Bool:=decide (aT l+cost size - iU l k<=room)
def dT (o:aw):Bool->List aw->List aw
 | d,[]=>if d then [] else [o]
 | d,x :: r=>(if d=false/\o.no<=x.no then [o] else [])++((if x.no=o.no then [] else [x])++dT o (d||decide (o.no<=x.no)) r)
theorem fH {l:List aw}{k:Int}{o:aw}(h:eM l k=some o):o∈l/\(o.no:Int)=k:=by
 unfold eM at h
 exact ⟨mem_of_find?_eq_some h,by simpa using find?_some h⟩
theorem QP (l:List aw)(k:Int):iU l k<=aT l:=by
 unfold iU
 cases h:eM l k with
 | none=>simp
 | some o =>
  have hm:=(fH h).1
  unfold aT
  have:∀(l:List aw),o∈l->cost o.b.length<=(l.map fun o=>cost o.b.length).sum:=by
   intro l
   induction l with
   | nil=>intro h;cases h
   | cons x r ih =>
    intro h
    rw [map_cons,sum_cons]
    rcases List.mem_cons.1 h with rfl | h
    ·omega
    ·have:=ih h;omega
  exact this l hm
structure kN (l:List aw):Prop where
 jd:l.length<=112
 sm:∀o∈l,o.b.length<=65536
 no:∀o∈l,o.no<=112
theorem EW {l:List aw}(h:kN l):aT l<=7728:=by
 have:∀l:List aw,(∀o∈l,o.b.length<=65536)->aT l<=69*l.length:=by
  intro l
  induction l with
  | nil=>intro _;simp [aT]
  | cons o r ih =>
   intro h
   have h1:=l7 (h o (mem_cons_self ..))
   have h2:=ih fun x hx=>h x (mem_cons_of_mem _ hx)
   simp only [aT,map_cons,sum_cons,length_cons] at *
   omega
 have h1:=this l h.sm
 have:=h.jd
 omega
theorem QQ {l:List aw}{i:Nat}{k:Int}(hi:i<l.length)(h:∀o∈l.take i,(o.no:Int)≠k)(hk:(l[i].no:Int)≠k):∀o∈l.take (i+1),(o.no:Int)≠k:=fun o ho=>by
 rw [aK l hi] at ho
 rcases List.mem_append.1 ho with ho | ho
 ·exact h o ho
 ·rw [mem_singleton.1 ho];exact hk
theorem aar {l:List aw}{i:Nat}{k:Int}(hi:i<l.length)(h:∀o∈l.take i,(o.no:Int)≠k)(hk:(l[i].no:Int)=k):eM l k=some l[i]:=by
 have e:eM l k=(l.take i++l.drop i).find? fun o=>(o.no:Int)==k:=by rw [take_append_drop];rfl
 rw [e,find?_append,find?_eq_none.2 fun o ho=>by simpa using h o ho,drop_eq_getElem_cons hi,find?_cons_of_pos (by simpa using hk)]
 rfl
theorem EX {l:List aw}{k:Int}(h:∀o∈l,(o.no:Int)≠k):eM l k=none:=by
 unfold eM
 exact find?_eq_none.2 fun o ho=>by simpa using h o ho
theorem HK {l:List aw}{i:Nat}(hi:i<l.length):aT (l.take (i+1))=aT (l.take i)+cost l[i].b.length:=by
 unfold aT
 rw [aK l hi,map_append,sum_append]
 simp
theorem yz (l:List aw)(i:Nat):aT (l.take i)<=aT l:=by
 conv=>rhs;rw [<-take_append_drop i l]
 unfold aT
 rw [map_append,sum_append]
 omega
end Go.Sl
namespace Go.Proofs.YtpabnmeponmonaaGreatDoor
abbrev iJ (v:Value)(ae note room:Nat)(vG vS:Value):Obj:=ax [v,.int .u64 ae,.int .u64 note,.int .i64 room,vG,vS] 77
def HL (O:Chunk)(l:List aw):Prop:=∀o∈l,(∃ad c,o.v = .slice ad o.b.length c/\o.b.length<=c)/\Rd O 1 o.v o.b.length (au o.b)
theorem cR (k:Int):Ct 114 [.int .i64 k] [] fun u Bs=>u = .bool (decide (1<=k/\k<=112))/\Bs=[]:=by
 refine st func114 fun w0 => ?_
 refine gg ?_ ?_ <;> intro h1
 ·refine gz ?_
  exact fin ⟨congrArg _ (decide_eq_decide.2 oZ),rfl⟩ aa
 ·refine gz ?_
  exact fin ⟨congrArg _ (decide_eq_false oZ).symm,rfl⟩ aa
theorem xj (n:Nat)(hn:n<=100000):Ct 179 [.int .i64 n] [] fun u Bs=>u = .int .i64 (cost n)/\Bs=[]:=by
 refine st func179 fun w0 => ?_
 refine gi ?_ ?_ <;> intro h
 ·obtain rfl:n=0:=oZ
  refine gz ?_
  exact fin ⟨rfl,rfl⟩ aa
 ·have h1:(n - 1) / 1024<=100000:=Nat.le_trans (Nat.div_le_self _ _) oZ
  have h2:((n - 1) / 1024+1 - 1) / 16<=100000:=Nat.le_trans (Nat.div_le_self _ _) oZ
  refine gz ?_
  exact fin ⟨by unfold cost;rw [if_neg oZ];congr 2,rfl⟩ aa
section
variable (a:Nat)(l:List aw)(aO:kN l)(ae note room:Nat)(vG vS:Value)(ad:Option Addr)(c:Nat)(D O:Chunk)(hD:Rd D 130 (.slice ad l.length c) l.length (l.flatMap aw.lay))
include aO hD
theorem re (k:Int):Ct 115 [ptr a,.int .i64 k] [[(a,iJ (.slice ad l.length c) ae note room vG vS)],D] fun u Bs=>((u = .int .i64 (-1)/\eM l k=none)\/∃i o,u = .int .i64 (i:Nat)/\l[i]? = some o/\eM l k=some o)/\Bs=[[(a,iJ (.slice ad l.length c) ae note room vG vS)],D]:=by
 have mM:=aO.jd
 refine st func115 fun w0 => ?_
 refine gl [0,1] (fun i:Nat=>[(5,.int .i64 i)]) (fun _=>[]) (fun i=>i<=l.length/\∀o∈l.take i,(o.no:Int)≠k) (fun i=>l.length - i) 0 ⟨by omega,by simp⟩ ?_
 rintro i ⟨hi,gf⟩
 refine gi ?_ ?_ <;> intro br
 ·have bh:i<l.length:=oZ
  obtain ⟨g,off,rfl⟩:=hD.addr oZ
  have hs:=av aw.ak l i l[i] (by simp)
  have vg:=hs 0 _ (aw.Mh _)
  refine gi ?_ ?_ <;> intro he
  ·have he:(l[i].no:Int)=k:=by simpa using he
   refine gz ?_
   exact fin ⟨.inr ⟨i,l[i],rfl,by simp,aar bh gf he⟩,rfl⟩ aa
  ·have he:(l[i].no:Int)≠k:=by simpa using he
   refine gn ?_
   exact ⟨i+1,⟨by omega,QQ bh gf he⟩,by omega,ar,_,aa⟩
 ·obtain rfl:i=l.length:=oZ
  rw [take_length] at gf
  refine gz ?_
  exact fin ⟨.inl ⟨rfl,EX gf⟩,rfl⟩ aa
variable (hO:HL O l)
include hO
theorem Vk:Ct 178 [ptr a] [[(a,iJ (.slice ad l.length c) ae note room vG vS)],D] fun u Bs=>u = .int .i64 (aT l)/\Bs=[[(a,iJ (.slice ad l.length c) ae note room vG vS)],D]:=by
 have mM:=aO.jd
 have Ao:=EW aO
 refine st func178 fun w0 => ?_
 refine gl [0] (fun i:Nat=>[(4,.int .i64 i),(3,.int .i64 (aT (l.take i)))]) (fun _=>[]) (fun i=>i<=l.length) (fun i=>l.length - i) 0 oZ ?_
 intro i hi
 refine gi ?_ ?_ <;> intro br
 ·have bh:i<l.length:=oZ
  obtain ⟨g,off,rfl⟩:=hD.addr oZ
  have hs:=av aw.ak l i l[i] (by simp)
  obtain ⟨⟨kK,cv,hv, -⟩, -⟩:=hO l[i] (getElem_mem bh)
  have vV:=hs 1 _ (show l[i].lay[1]? = some (.slice kK l[i].b.length cv) by rw [<-hv];exact aw.sU _)
  have Cj:=aO.sm l[i] (getElem_mem bh)
  have hc:=l7 Cj
  have ht:=HK bh
  have hb:=yz l i
  refine gc (xj l[i].b.length oZ) ?_
  rintro _ _ ⟨rfl,rfl⟩
  refine go ?_
  rw [<-ht]
  refine gn ?_
  exact ⟨i+1,by omega,by omega,ar,_,aa⟩
 ·obtain rfl:i=l.length:=oZ
  rw [take_length]
  refine gz ?_
  exact fin ⟨rfl,rfl⟩ aa
theorem Bp (k:Int)(size:Nat)(bu:size<=65536)(fe:room<=100000):Ct 116 [ptr a,.int .i64 k,.int .i64 size] [[(a,iJ (.slice ad l.length c) ae note room vG vS)],D] fun u Bs=>u = .bool (cQ l k size room)/\Bs=[[(a,iJ (.slice ad l.length c) ae note room vG vS)],D]:=by
 have Tj:=Vk a l aO ae note room vG vS ad c D O hD hO
 have ic:=re a l aO ae note room vG vS ad c D hD k
 have Ao:=EW aO
 have rS:=QP l k
 have N1:=l7 bu
 refine st func116 fun w0 => ?_
 refine gc Tj ?_
 rintro _ _ ⟨rfl,rfl⟩
 refine gc (xj size oZ) ?_
 rintro _ _ ⟨rfl,rfl⟩
 refine gc ic ?_
 rintro _ _ ⟨⟨rfl,hn⟩ | ⟨i,o,rfl,hi,hn⟩,rfl⟩
 ·have e:iU l k=0:=by unfold iU;rw [hn]
  refine gz ?_
  exact fin ⟨by unfold cQ;rw [e];exact congrArg _ (decide_eq_decide.2 oZ),rfl⟩ aa
 ·have bh:=(List.getElem?_eq_some_iff.1 hi).1
  have rT:=mem_of_getElem? hi
  have e:iU l k=cost o.b.length:=by unfold iU;rw [hn]
  have Cj:=aO.sm o rT
  have mM:=aO.jd
  obtain ⟨g,off,rfl⟩:=hD.addr oZ
  have hs:=av aw.ak l i o hi
  obtain ⟨⟨kK,cv,hv, -⟩, -⟩:=hO o rT
  have vV:=hs 1 _ (show o.lay[1]? = some (.slice kK o.b.length cv) by rw [<-hv];exact aw.sU _)
  refine gc (xj o.b.length oZ) ?_
  rintro _ _ ⟨rfl,rfl⟩
  have hw:IntKind.i64.wrap (((aT l+cost size:Nat):Int) - ((cost o.b.length:Nat):Int))=((aT l+cost size - cost o.b.length:Nat):Int):=by rw [IntWalk.i64_in _ oZ];omega
  refine gz ?_
  exact fin ⟨by unfold cQ;rw [e];exact congrArg _ (decide_eq_decide.2 oZ),rfl⟩ aa
end
end Go.Proofs.YtpabnmeponmonaaGreatDoor
namespace Go.Sl
def eW (all:List (Int×Ob)):Nat:=(all.map fun e=>cost e.2.size).sum
def gM (all:List (Int×Ob))(q:Int):Nat:=match aJ all q with
 | some o=>cost o.size
 | none=>0
def px (all:List (Int×Ob))(k:Int)(size room:Nat):Bool:=decide (eW all+cost size - gM all k<=room)
theorem zw:∀ {all:List (Int×Ob)},(all.map (·.1)).Nodup->eW all=((all.map (·.1)).map (gM all)).sum:=by
 intro all hn
 unfold eW
 rw [map_map]
 congr 1
 apply map_congr_left
 intro e he
 simp only [Function.comp,gM,fu hn he]
theorem Mi {all:List (Int×Ob)}(q:Int):gM all q<=eW all:=by
 unfold gM
 cases h:aJ all q with
 | none=>simp
 | some o =>
  obtain ⟨X,Y,e⟩:=append_of_mem (aI h)
  simp only [eW,e,map_append,map_cons,sum_append,sum_cons];omega
theorem Bq:∀ {all:List (Int×Ob)},(∀e∈all,e.2.size<=65536)->eW all<=69*all.length
 | [],_=>by simp [eW]
 | e :: r,h=>by
  have h1:=l7 (h e (mem_cons_self ..))
  have h2:=Bq (all:=r) fun x hx=>h x (mem_cons_of_mem _ hx)
  simp only [eW,map_cons,sum_cons,length_cons] at *;omega
end Go.Sl
namespace Go.Proofs.YtpabnmeponmonaaGreatDoor
section
variable (s t pool:Nat)(tp:Tp)(pr:Bool)(n:Nat)(ls:List (Option Lv))(no:Nat)(V:Chunk)(hV:iZ t pool tp pr n ls no V)(ok:dj tp pr n ls.length)(dq:n<=2048)(vA:Value)(ra rd ae note:Nat)
variable (LA:List (Int×Value))(CA:Chunk)(hA:Mp ra .i64 LA CA)(all:List (Int×Ob))(VA:Chunk)(hG:fo yd LA all VA)(bu:∀e∈all,e.2.size<=65536)(hlen:all.length<=112)
include hA hG bu hlen
theorem aas:Ct 175 [ptr s] [[(s,bU t vA ra rd ae note)],CA,VA] fun u Bs=>u = .int .i64 (eW all)/\Bs=[[(s,bU t vA ra rd ae note)],CA,VA]:=by
 have hk:=hG.keys
 have eF:=hA.nodup
 have afi:(all.map (·.1)).Nodup:=by rw [hk];exact eF
 have Tj:=zw afi
 rw [hk] at Tj
 have Ao:=Bq bu
 refine st func175 fun w0 => ?_
 refine gr ?_
 intro it DI hI
 refine gl [10] (fun ((acc,_):Nat×List (Int×Value)×Chunk)=>[(3,.int .i64 acc)]) (fun (_,_,DI)=>[CA,DI,VA]) (fun (acc,rest,DI)=>y8 ra it .i64 LA rest CA DI/\acc+((rest.map (·.1)).map (gM all)).sum=eW all) (fun (_,rest,_)=>rest.length) (0,LA,DI) ⟨hI,by rw [Tj];simp⟩ ?_
 clear hI
 rintro ⟨acc,rest,DI⟩ ⟨hI,hs⟩
 refine OT ?_ ?_
 ·rintro rfl
  refine gz ?_
  have:acc=eW all:=by simpa using hs
  subst this
  exact fin ⟨rfl,rfl⟩ aa
 ·rintro X q v Y HB rfl iy rO hE
  rcases hG.look q with ⟨h1, -⟩ | ⟨v',o,V1,D,V2,h1,h2,rfl,⟨a,rfl,hO⟩, -, -⟩
  ·rw [iy] at h1;cases h1
  ·obtain rfl:v=ptr a:=by rw [iy] at h1;exact Option.some.inj h1
   have ho:o.size<=65536:=bu _ (aI h2)
   have hca:gM all q=cost o.size:=by unfold gM;rw [h2]
   obtain ⟨jM,cP,DP,eb,cI,yA,r,LF,CF,VF,hP,JI,hM,hF,rfl⟩:=hO
   simp only [map_append,map_cons,sum_append,sum_cons,hca] at hs
   refine OU ?_
   refine gs ?_
   refine gc (G9 o.size oZ) ?_
   rintro _ _ ⟨rfl,rfl⟩
   refine gn ?_
   exact ⟨(acc+cost o.size,X++Y,HB),⟨rO,by simp only [map_append,sum_append];omega⟩,by simp only [length_append,length_cons];omega,ar,_,aa⟩
include hV ok dq in
theorem sV (k:Int)(size:Nat)(xk:size<=65536):Ct 113 [ptr s,.int .i64 k,.int .i64 size] [[(s,bU t vA ra rd ae note)],V,CA,VA] fun u Bs=>u = .bool (px all k size (bD pr ls.length n / aL pr ls.length 1024 / 4 - 10))/\Bs=[[(s,bU t vA ra rd ae note)],V,CA,VA]:=by
 have Tj:=aas s t vA ra rd ae note LA CA hA all VA hG bu hlen
 have Tf:=aaq s t pool tp pr n ls no V hV ok dq vA ra rd ae note
 have Ao:=Bq bu
 have rS:=l7 xk
 have N1:=G9 size oZ
 have hca:=Mi (all:=all) k
 unfold px
 generalize bD pr ls.length n / aL pr ls.length 1024 / 4 - 10=room at *
 rcases hG.look k with ⟨h1,h2, -⟩ | ⟨v',o,V1,D,V2,h1,h2,rfl,⟨a,rfl,hO⟩, -, -⟩
 ·have Vl:gM all k=0:=by unfold gM;rw [h2]
  rw [Vl]
  refine st func113 fun w0 => ?_
  refine gc Tj ?_
  rintro _ _ ⟨rfl,rfl⟩
  refine gc N1 ?_
  rintro _ _ ⟨rfl,rfl⟩
  refine gc Tf ?_
  rintro _ _ ⟨rfl,rfl⟩
  refine gz ?_
  exact fin ⟨congrArg _ (decide_eq_decide.2 oZ),rfl⟩ aa
 ·have ho:o.size<=65536:=bu _ (aI h2)
  have hc1:gM all k=cost o.size:=by unfold gM;rw [h2]
  rw [hc1] at hca ⊢
  have hco:=G9 o.size oZ
  obtain ⟨jM,cP,DP,eb,cI,yA,r,LF,CF,VF,hP,JI,hM,hF,rfl⟩:=hO
  refine st func113 fun w0 => ?_
  refine gs ?_
  refine gc Tj ?_
  rintro _ _ ⟨rfl,rfl⟩
  refine gs ?_
  refine gc N1 ?_
  rintro _ _ ⟨rfl,rfl⟩
  refine gc hco ?_
  rintro _ _ ⟨rfl,rfl⟩
  refine gc Tf ?_
  rintro _ _ ⟨rfl,rfl⟩
  refine gz ?_
  exact fin ⟨congrArg _ (decide_eq_decide.2 oZ),rfl⟩ aa
end
end Go.Proofs.YtpabnmeponmonaaGreatDoor
namespace Go.Sl
def dH (all:List (Int×Ob))(k:Int):Int×Int:=if 1<=k/\k<=112 then (match aJ all k with
 | some o=>((o.size:Int),0)
 | none=>(0,130)) else (0,1)
theorem ed {all:List (Int×Ob)}{k:Int}(h:¬(1<=k/\k<=112)):dH all k=(0,1):=if_neg h
theorem fA {all:List (Int×Ob)}{k:Int}(h:1<=k/\k<=112)(h2:aJ all k=none):dH all k=(0,130):=by unfold dH;rw [if_pos h,h2]
theorem eY {all:List (Int×Ob)}{k:Int}{o:Ob}(h:1<=k/\k<=112)(h2:aJ all k=some o):dH all k=((o.size:Int),0):=by unfold dH;rw [if_pos h,h2]
end Go.Sl
namespace Go.Proofs.YtpabnmeponmonaaGreatDoor
section
variable (s tk:Nat)(vA:Value)(ra rd ae note:Nat)
theorem QR:Ct 30 [ptr s] [[(s,bU tk vA ra rd ae note)]] fun u Bs=>u = .int .u64 ae/\Bs=[[(s,bU tk vA ra rd ae note)]]:=by
 refine st func30 fun w0 => ?_
 refine gz ?_
 exact fin ⟨rfl,rfl⟩ aa
theorem Vm:Ct 31 [ptr s] [[(s,bU tk vA ra rd ae note)]] fun u Bs=>u = .int .u64 note/\Bs=[[(s,bU tk vA ra rd ae note)]]:=by
 refine st func31 fun w0 => ?_
 refine gz ?_
 exact fin ⟨rfl,rfl⟩ aa
variable (LA:List (Int×Value))(CA:Chunk)(hA:Mp ra .i64 LA CA)
include hA
theorem sW (hl:LA.length<=112):Ct 29 [ptr s] [[(s,bU tk vA ra rd ae note)],CA] fun u Bs=>∃ks ad c D,ks.Perm (LA.map (·.1))/\ks.Pairwise (· <= ·)/\u = .slice ad LA.length c/\aC D 3 1 u LA.length (ints ks)/\Bs=[D,[(s,bU tk vA ra rd ae note)],CA]:=by
 refine st func29 fun w0 => ?_
 refine gr ?_
 intro it DI hI
 refine gl [9] (fun ((v3,_):Value×List Int×List (Int×Value)×Chunk×Chunk)=>[(3,v3)]) (fun (_,_,_,D,DI)=>[CA,D,DI]) (fun (v3,ks,rest,D,DI)=>(∃ad c,v3 = .slice ad ks.length c)/\aC D 3 1 v3 ks.length (ints ks)/\y8 ra it .i64 LA rest CA DI/\(ks++rest.map (·.1)).Perm (LA.map (·.1))) (fun (_,_,rest,_)=>rest.length) (.slice none 0 0,[],LA,[],DI) ⟨⟨none,0,rfl⟩,aC.nil _ _,hI,List.Perm.refl _⟩ ?_
 clear hI
 rintro ⟨v3,ks,rest,D,DI⟩ ⟨⟨ad,c,rfl⟩,hD,hI,hp⟩
 have mU:=hp.length_eq
 rw [length_append,length_map,length_map] at mU
 refine OT ?_ ?_
 ·rintro rfl
  rw [map_nil,append_nil] at hp
  simp only [length_nil,Nat.add_zero] at mU
  refine gc (I7 ks _ rfl oZ D ad c hD) ?_
  rintro _ _ ⟨D',eJ,rfl⟩
  refine gz ?_
  rw [<-mU]
  exact fin ⟨Au ks,ad,c,D',(sA ks).trans hp,tv ks,rfl,eJ,rfl⟩ aa
 ·rintro X q v Y HB rfl iy rO hE
  simp only [length_append,length_cons] at mU
  refine OU ?_
  refine gm ?_;intro b16
  refine gp ?_;intro ad2 c2 D2 Dy
  refine gn ?_
  refine ⟨(_,ks++[q],X++Y,D2,HB),⟨⟨ad2,c2,by rw [length_append]⟩,by simpa [ints] using Dy,rO, ?_⟩,by simp only [length_append,length_cons];omega,ar,_,aa⟩
  refine List.Perm.trans ?_ hp
  simp only [map_append,map_cons,append_assoc]
  exact List.Perm.append_left _ (show (q :: (X.map (·.1)++Y.map (·.1))).Perm (X.map (·.1)++q :: Y.map (·.1)) from perm_middle.symm)
variable (all:List (Int×Ob))(VA:Chunk)(hG:fo yd LA all VA)
include hG
theorem JN (k:Int):Ct 32 [ptr s,.int .i64 k] [[(s,bU tk vA ra rd ae note)],CA,VA] fun u Bs=>u = .tuple #[.int .i64 (dH all k).1,.int .i64 (dH all k).2]/\Bs=[[(s,bU tk vA ra rd ae note)],CA,VA]:=by
 by_cases hk:1<=k/\k<=112
 ·rcases hG.look k with ⟨h1,h2, -⟩ | ⟨v',o,V1,D,V2,h1,h2,rfl,⟨a,rfl,hO⟩, -, -⟩
  ·rw [fA hk h2]
   refine st func32 fun w0 => ?_
   refine gc (og s tk vA ra rd ae note LA CA hA k hk h1) ?_
   rintro _ _ ⟨rfl,rfl⟩
   refine gz ?_
   exact fin ⟨rfl,rfl⟩ aa
  ·rw [eY hk h2]
   obtain ⟨jM,cP,DP,eb,cI,yA,r,LF,CF,VF,hP,JI,hM,hF,rfl⟩:=hO
   refine st func32 fun w0 => ?_
   refine gs ?_
   refine gc (mg s tk vA ra rd ae note LA CA hA k hk a h1) ?_
   rintro _ _ ⟨rfl,rfl⟩
   refine gz ?_
   exact fin ⟨rfl,rfl⟩ aa
 ·rw [ed hk]
  refine st func32 fun w0 => ?_
  refine gc (lB s tk vA ra rd ae note k hk) ?_
  rintro _ _ ⟨rfl,rfl⟩
  refine gz ?_
  exact fin ⟨rfl,rfl⟩ aa
theorem Vn (k:Int):Ct 54 [ptr s,.int .i64 k] [[(s,bU tk vA ra rd ae note)],CA,VA] fun u Bs=>u = .int .i64 (dH all k).2/\∃L' C' V',Mp ra .i64 L' C'/\fo yd L' (if (dH all k).2=0 then pR all k else all) V'/\Bs=[[(s,bU tk vA ra rd ae note)],C',V']:=by
 by_cases hk:1<=k/\k<=112
 ·rcases hG.look k with ⟨h1,h2, -⟩ | ⟨v',o,V1,D,V2,h1,h2, -⟩
  ·rw [fA hk h2]
   refine st func54 fun w0 => ?_
   refine gc (og s tk vA ra rd ae note LA CA hA k hk h1) ?_
   rintro _ _ ⟨rfl,rfl⟩
   refine gz ?_
   exact fin ⟨rfl,LA,CA,VA,hA,hG,rfl⟩ aa
  ·rw [eY hk h2]
   obtain ⟨o',V1',D',V2',h3,rfl,hD,QS⟩:=hG.cut hA.nodup h1
   obtain ⟨a,rfl,hO⟩:=hD
   have ag5:(kx LA k).isSome=true:=by rw [h1];rfl
   refine st func54 fun w0 => ?_
   refine gs ?_
   refine gc (mg s tk vA ra rd ae note LA CA hA k hk a h1) ?_
   rintro _ _ ⟨rfl,rfl⟩
   refine gx ?_
   intro C' bF
   refine gz ?_
   exact fin ⟨rfl,_,C',_,bF,QS,rfl⟩ aa
 ·rw [ed hk]
  refine st func54 fun w0 => ?_
  refine gc (lB s tk vA ra rd ae note k hk) ?_
  rintro _ _ ⟨rfl,rfl⟩
  refine gz ?_
  exact fin ⟨rfl,LA,CA,VA,hA,hG,rfl⟩ aa
end
section
variable (a:Nat)(l:List aw)(aO:kN l)(ae note room:Nat)(vG vS:Value)(ad:Option Addr)(c:Nat)(D:Chunk)(hD:Rd D 130 (.slice ad l.length c) l.length (l.flatMap aw.lay))
include aO hD
theorem Vo (ks:List Int)(Gp:ks=l.map fun o=>(o.no:Int))(E:Chunk)(KV:Option Addr)(c0:Nat)(hE:aC E 3 1 (.slice KV l.length c0) l.length (ints ks)):Ct 28 [.slice KV l.length c0,ptr a] [E,[(a,iJ (.slice ad l.length c) ae note room vG vS)],D] fun u Bs=>u = .bool true/\∃E',Bs=[E',[(a,iJ (.slice ad l.length c) ae note room vG vS)],D]:=by
 have mM:=aO.jd
 obtain ⟨h1,h2,⟨hv,h3,rfl⟩ | ⟨g,c1,r,hv,rfl,h3,h4,h5⟩⟩:=hE
 ·obtain rfl:=length_eq_zero_iff.1 h3
  cases hv
  refine st func28 fun w0 => ?_
  refine gl [0,1] (fun i:Nat=>[(5,.int .i64 i)]) (fun _=>[]) (fun i=>i=0) (fun i=>0) 0 rfl ?_
  rintro i rfl
  refine gz ?_
  exact fin ⟨rfl,_,rfl⟩ aa
 ·cases hv
  refine st func28 fun w0 => ?_
  refine gl [0,1] (fun ((i,_):Nat×List Value)=>[(5,.int .i64 i)]) (fun (i,pre)=>[[(g,ax (pre++((ints ks).drop i++r)) 3)]]) (fun (i,pre)=>i<=l.length/\pre.length=i) (fun (i,_)=>l.length - i) (0,[]) ⟨by omega,rfl⟩ ?_
  rintro ⟨i,pre⟩ ⟨hi,oE⟩
  refine gi ?_ ?_ <;> intro br
  ·have bh:i<l.length:=oZ
   obtain ⟨gD,off,rfl⟩:=hD.addr oZ
   have hs:=av aw.ak l i l[i] (by simp)
   have vg:=hs 0 _ (aw.Mh _)
   have LG:(ints ks).drop i = .int .i64 (l[i].no:Int) :: (ints ks).drop (i+1):=by
    rw [drop_eq_getElem_cons oZ]
    congr 1
    subst Gp
    simp [ints]
   rw [LG]
   have bX:(pre++(.int .i64 (l[i].no:Int) :: (ints ks).drop (i+1)++r))[i]? = some (.int .i64 (l[i].no:Int)):=by
    rw [getElem?_append_right oZ,oE,Nat.sub_self];rfl
   have eQ:(pre++(.int .i64 (l[i].no:Int) :: (ints ks).drop (i+1)++r)).set i (.int .i64 (-1))=(pre++[.int .i64 (-1)])++((ints ks).drop (i+1)++r):=by
    rw [set_append_right _ _ oZ,oE,Nat.sub_self,append_assoc];rfl
   refine go ?_
   rw [eQ]
   refine gn ?_
   exact ⟨(i+1,pre++[.int .i64 (-1)]),⟨by omega,by simp [oE]⟩,sOZ,ar,_,aa⟩
  ·obtain rfl:i=l.length:=oZ
   refine gz ?_
   exact fin ⟨rfl,_,rfl⟩ aa
end
end Go.Proofs.YtpabnmeponmonaaGreatDoor
namespace Go.Sl
def Ob.byte (rd:Pt->List UInt8)(o:Ob)(j:Nat):UInt8:=((o.raw rd (j / 1024))[j % 1024]?).getD 0
def Ob.mO (rd:Pt->List UInt8)(o:Ob)(a m:Nat):List UInt8:=(List.range' a m).map (o.byte rd)
section
variable (rd:Pt->List UInt8)(o:Ob)
theorem Ob.ot (a m:Nat):(o.mO rd a m).length=m:=by simp [Ob.mO]
theorem Ob.pS (a m k:Nat):o.mO rd a m++o.mO rd (a+m) k=o.mO rd a (m+k):=by
 unfold Ob.mO
 rw [<-map_append,range'_append_1]
theorem Ob.QT (a m k:Nat):(o.mO rd a m).drop k=o.mO rd (a+k) (m - k):=by
 unfold Ob.mO
 rw [<-map_drop,drop_range'];simp
theorem Ob.EY (a m k:Nat):(o.mO rd a m).take k=o.mO rd a (min k m):=by
 rcases Nat.le_total k m with h | h
 ·rw [Nat.min_eq_left h,show m=k+(m - k) by omega,<-Ob.pS]
  exact take_left' (Ob.ot ..)
 ·rw [Nat.min_eq_right h,take_of_length_le (by rw [Ob.ot];exact h)]
theorem Ob.ou (i:Nat):o.gB rd i=o.mO rd (i*1024) (aV o.size i):=by
 unfold Ob.gB
 have hL:aV o.size i<=1024:=by unfold aV;omega
 generalize aV o.size i=L at *
 apply ext_getElem
 ·rw [ec,Ob.ot]
 ·intro k h1 h2
  rw [ec] at h1
  have e1:(i*1024+k) / 1024=i:=oZ
  have e2:(i*1024+k) % 1024=k:=oZ
  simp only [Ob.mO,getElem_map,getElem_range',Nat.one_mul,Ob.byte,e1,e2,dV]
  by_cases c:k<(o.raw rd i).length
  ·rw [getElem_append_left (by simp;omega)]
   simp [getElem?_eq_getElem c]
  ·rw [getElem_append_right (by simp;omega)]
   rw [getElem?_eq_none oZ]
   simp
end
def dO (size:Nat)(at_ many:Nat):Nat:=min many (size - at_)
end Go.Sl
namespace Go.Proofs.YtpabnmeponmonaaGreatDoor
section
variable (T:TypeId)(fr:Nat×Nat)(p:Nat)(qs:List Nat)(t pool:Nat)(tp:Tp)(pr:Bool)(n:Nat)(ls:List (Option Lv))(no:Nat)(V:Chunk)(hV:iZ t pool tp pr n ls no V)(ok:dj tp pr n ls.length)(R:Rk)(C:Chunk)(hC:bj p qs R C)(ho:dE qs R n ls)(hall:∀x∈ls,x≠none)(db:R.off=false)
variable (s:Nat)(vA:Value)(ra rd ae note:Nat)(LA:List (Int×Value))(CA:Chunk)(hA:Mp ra .i64 LA CA)(all:List (Int×Ob))(VA:Chunk)(hG:fo yd LA all VA)
theorem Mj (k a m:Int)(h:a<0\/m<0):Ct 33 [ptr s,.int .i64 k,.int .i64 a,.int .i64 m] [[(s,bU t vA ra rd ae note)]] fun u Bs=>u = .tuple #[.slice none 0 0,.int .i64 1]/\Bs=[[(s,bU t vA ra rd ae note)]]:=by
 refine st func33 fun w0 => ?_
 rcases (show a<0\/(¬a<0/\m<0) by omega) with h1 | ⟨h1,h2⟩
 ·refine gz ?_
  exact fin ⟨rfl,rfl⟩ aa
 ·refine gz ?_
  exact fin ⟨rfl,rfl⟩ aa
include hA hG
theorem QU (k:Int)(a m:Nat)(h:(dH all k).2≠0):Ct 33 [ptr s,.int .i64 k,.int .i64 a,.int .i64 m] [[(s,bU t vA ra rd ae note)],CA,VA] fun u Bs=>u = .tuple #[.slice none 0 0,.int .i64 (dH all k).2]/\Bs=[[(s,bU t vA ra rd ae note)],CA,VA]:=by
 by_cases hk:1<=k/\k<=112
 ·rcases hG.look k with ⟨h1,h2, -⟩ | ⟨v',o,V1,D,V2,h1,h2, -⟩
  ·rw [fA hk h2]
   refine st func33 fun w0 => ?_
   refine gc (og s t vA ra rd ae note LA CA hA k hk h1) ?_
   rintro _ _ ⟨rfl,rfl⟩
   refine gz ?_
   exact fin ⟨rfl,rfl⟩ aa
  ·rw [eY hk h2] at h;exact absurd rfl h
 ·rw [ed hk]
  refine st func33 fun w0 => ?_
  refine gc (lB s t vA ra rd ae note k hk) ?_
  rintro _ _ ⟨rfl,rfl⟩
  refine gz ?_
  exact fin ⟨rfl,rfl⟩ aa
include hV ok hC ho hall db
theorem JO (k:Int)(hk:1<=k/\k<=112)(a m:Nat)(Mk:a<9223372036854775808/\m<9223372036854775808)(o:Ob)(hl:aJ all k=some o)(bu:o.size<=65536)(dJ:Pt->List UInt8)(QL:∀x∈o.aA,x≠ai->Mf R ls pr n x (dJ x))(pv:∀e∈o.fresh,e.2.length<=1024) :
  Ct 33 [ptr s,.int .i64 k,.int .i64 a,.int .i64 m] [[(s,bU t vA ra rd ae note)],gK T fr,C,V,CA,VA] fun u Bs=>∃ad c D,u = .tuple #[.slice ad (dO o.size a m) c,.int .i64 0]/\aC D 5 1 (.slice ad (dO o.size a m) c) (dO o.size a m) (au (o.mO dJ a (dO o.size a m)))/\Bs=[D,[(s,bU t vA ra rd ae note)],gK T fr,C,V,CA,VA]:=by
 rcases hG.look k with ⟨-,h2, -⟩ | ⟨v',o',V1,D,V2,h1,h2,rfl,⟨ao,rfl,hO⟩, -, -⟩
 ·rw [hl] at h2;cases h2
 ·obtain rfl:o=o':=by rw [hl] at h2;exact Option.some.inj h2
  have eD:=fun i hi=>rb T fr p qs t pool tp pr n ls no V hV ok R C hC ho hall db s vA ra rd ae note ao o bu D hO i hi dJ (fun x hx=>QL x (mem_of_getElem? hx)) pv
  obtain ⟨N,hN⟩:∃N,N=dO o.size a m:=⟨_,rfl⟩
  rw [<-hN]
  unfold dO at hN
  have G1:(a:Int)<9223372036854775808/\(m:Int)<9223372036854775808:=oZ
  refine st func33 fun w0 => ?_
  refine gs ?_
  refine gc (mg s t vA ra rd ae note LA CA hA k hk ao h1) ?_
  rintro _ _ ⟨rfl,rfl⟩
  refine gl [0,10] (fun ((i,q,v12,_):Nat×Nat×Value×Chunk)=>[(13,.int .i64 i),(2,.int .i64 (a+q:Nat)),(3,.int .i64 (m - q:Nat)),(12,v12)]) (fun (_,_,_,E)=>[E,[(s,bU t vA ra rd ae note)],gK T fr,C,V,D]) (fun (i,q,v12,E)=>q<=N/\(q<N->i=(a+q) / 1024)/\i<=9007199254740992/\(∃ad c,v12 = .slice ad q c)/\aC E 5 1 v12 q (au (o.mO dJ a q))) (fun (_,q,_,_)=>N - q) (a / 1024,0,.slice none 0 0,[]) ⟨by omega,fun _=>rfl,by omega,⟨none,0,rfl⟩,aC.nil _ _⟩ ?_
  rintro ⟨i,q,v12,E⟩ ⟨hq,hi,hib,⟨ad,c,rfl⟩,hE⟩
  by_cases ED:q<N
  ·have jH:a+q<o.size/\0<m - q:=oZ
   have hii:=hi ED
   have xl:i<=100:=oZ
   have HM:=eD i xl
   rw [Ob.ou] at HM
   obtain ⟨L,hL⟩:∃L,L=aV o.size i:=⟨_,rfl⟩
   rw [<-hL] at HM
   unfold aV at hL
   obtain ⟨d,hd⟩:∃d,d=a+q - i*1024:=⟨_,rfl⟩
   obtain ⟨e,he⟩:∃e,e=min (L - d) (m - q):=⟨_,rfl⟩
   have qc:((au (o.mO dJ (i*1024) L)).drop (d*1)).take ((L - d)*1)=au (o.mO dJ (a+q) (L - d)):=by
    rw [Nat.mul_one,Nat.mul_one,bo,aQ,Ob.QT,Ob.EY,show i*1024+d=a+q by omega,Nat.min_self]
   have ZV:((au (o.mO dJ (a+q) (L - d))).drop (0*1)).take ((e - 0)*1)=au (o.mO dJ (a+q) e):=by
    rw [Nat.zero_mul,drop_zero,Nat.sub_zero,Nat.mul_one,aQ,Ob.EY,show min e (L - d)=e by omega]
   have Nw:L - d=L - d:=rfl
   have dq:e - 0=e:=rfl
   have jv:IntKind.i64.wrap (((a+q:Nat):Int) - ((i*1024:Nat):Int))=(d:Int):=by rw [IntWalk.i64_in _ oZ];omega
   obtain ⟨jM,cP,DP,eb,cI,yA,r,LF,CF,VF,hP,JI,hM,hF,rfl⟩:=hO
   refine gs ?_
   refine gc HM ?_
   rintro _ _ ⟨g,rfl,rfl⟩
   refine gs ?_
   have hRg:Rd [(g,ax (au (o.mO dJ (i*1024) L)) 5)] 1 (.slice (some ⟨g,0,none⟩) L L) L (au (o.mO dJ (i*1024) L)):=ay (by rw [aq,Ob.ot,Nat.mul_one]) (aP _) oZ _
   refine gw ?_;intro ad2 kY
   clear hRg
   refine go ?_
   rw [show min ((L - d:Nat):Int) ((m - q:Nat):Int)=(e:Int) by omega]
   refine gw ?_;intro ia DV
   clear kY
   refine gp ?_;intro qK c4 E4 hE4
   have aat:au (o.mO dJ a q)++au (o.mO dJ (a+q) e)=au (o.mO dJ a (q+e)):=by rw [<-aG,Ob.pS]
   rw [aat] at hE4
   refine gn ?_
   exact ⟨(i+1,q+e,_,E4),⟨by omega,fun h=>by omega,by omega,⟨qK,c4,rfl⟩,hE4⟩,sOZ,ar,_,aa⟩
  ·obtain rfl:q=N:=oZ
   obtain ⟨jM,cP,DP,eb,cI,yA,r,LF,CF,VF,hP,JI,hM,hF,rfl⟩:=hO
   refine gs ?_
   by_cases br:a+q<o.size
   ·refine gz ?_
    exact fin ⟨ad,c,E,rfl,hE,rfl⟩ aa
   ·refine gz ?_
    exact fin ⟨ad,c,E,rfl,hE,rfl⟩ aa
end
end Go.Proofs.YtpabnmeponmonaaGreatDoor
namespace Go.Sl
def nH (o:Ob)(ae i:Nat):Bool:=(match o.aA[i]? with
 | some x=>decide (ae<x.bg)
 | none=>false)||(aJ o.fresh (i:Int)).isSome
def cy (o:Ob)(ae:Nat):List Bool:=(List.range 64).map (nH o ae)
theorem Ml (o:Ob)(ae:Nat):(cy o ae).length=64:=by simp [cy]
theorem QV {o:Ob}{ae i:Nat}(h:i<64):(cy o ae)[i]? = some (nH o ae i):=by simp [cy,h]
def bC (bs:List Bool)(i:Nat):List Pt:=(bs.take i).map qP++replicate (64 - i) ai
theorem QW {pre post:List Pt}{i:Nat}(h:pre.length=i):(aR (pre++ai :: post)).set (i*9+3) (.int .u64 1)=aR (pre++qP true :: post):=by
 subst h
 induction pre with
 | nil=>rfl
 | cons x r ih =>
  have e1:aR (x :: r++ai :: post)=x.lay++aR (r++ai :: post):=rfl
  have e2:aR (x :: r++qP true :: post)=x.lay++aR (r++qP true :: post):=rfl
  rw [e1,e2,<-ih,length_cons,set_append_right _ _ (by rw [Pt.ak];omega),Pt.ak]
  congr 2
  omega
theorem xm {bs:List Bool}{i:Nat}(hi:i<64):bC bs i=(bs.take i).map qP++ai :: replicate (64 - (i+1)) ai:=by
 unfold bC
 rw [show 64 - i=(64 - (i+1))+1 by omega,replicate_succ]
theorem zx {bs:List Bool}(hb:bs.length=64){i:Nat}(hi:i<64)(h:bs[i]? = some true):(aR (bC bs i)).set (i*9+3) (.int .u64 1)=aR (bC bs (i+1)):=by
 rw [xm hi,QW (by rw [length_map,length_take,hb];omega)]
 unfold bC
 rw [take_add_one,h]
 simp
theorem EZ {bs:List Bool}(hb:bs.length=64){i:Nat}(hi:i<64)(h:bs[i]? = some false):bC bs (i+1)=bC bs i:=by
 rw [xm hi]
 unfold bC
 rw [take_add_one,h]
 simp [qP,ai]
theorem ov {bs:List Bool}(hb:bs.length=64){i:Nat}(hi:i<=64):(aR (bC bs i)).length=576:=by
 have:∀l:List Pt,(aR l).length=9*l.length:=fun l=>by
  induction l with
  | nil=>rfl
  | cons x r ih=>simp only [aR,flatMap_cons,length_append,Pt.ak,length_cons] at *;omega
 rw [this,bC];simp;omega
end Go.Sl
namespace Go.Proofs.YtpabnmeponmonaaGreatDoor
section
variable (s tk:Nat)(vA:Value)(ra rd ae note:Nat)(LA:List (Int×Value))(CA:Chunk)(hA:Mp ra .i64 LA CA)(all:List (Int×Ob))(VA:Chunk)(hG:fo yd LA all VA)
include hA hG
theorem Mm (k:Int)(g:Nat)(h:(dH all k).2≠0):Ct 62 [ptr s,.int .i64 k,.int .u64 g] [[(s,bU tk vA ra rd ae note)],CA,VA] fun u Bs=>u = .tuple #[.slice none 0 0,.int .i64 (dH all k).2]/\Bs=[[(s,bU tk vA ra rd ae note)],CA,VA]:=by
 by_cases hk:1<=k/\k<=112
 ·rcases hG.look k with ⟨h1,h2, -⟩ | ⟨v',o,V1,D,V2,h1,h2, -⟩
  ·rw [fA hk h2]
   refine st func62 fun w0 => ?_
   refine gc (og s tk vA ra rd ae note LA CA hA k hk h1) ?_
   rintro _ _ ⟨rfl,rfl⟩
   refine gz ?_
   exact fin ⟨rfl,rfl⟩ aa
  ·rw [eY hk h2] at h;exact absurd rfl h
 ·rw [ed hk]
  refine st func62 fun w0 => ?_
  refine gc (lB s tk vA ra rd ae note k hk) ?_
  rintro _ _ ⟨rfl,rfl⟩
  refine gz ?_
  exact fin ⟨rfl,rfl⟩ aa
theorem QX (k:Int)(hk:1<=k/\k<=112)(g:Nat)(o:Ob)(hl:aJ all k=some o)(bu:o.size<=65536) :
  Ct 62 [ptr s,.int .i64 k,.int .u64 g] [[(s,bU tk vA ra rd ae note)],CA,VA] fun u Bs=>∃ad c D,u = .tuple #[.slice ad (mY o.size 0 (cy o g) []).length c,.int .i64 0]/\aC D 164 2 (.slice ad (mY o.size 0 (cy o g) []).length c) (mY o.size 0 (cy o g) []).length ((mY o.size 0 (cy o g) []).flatMap Sp.lay)/\Bs=[D,[(s,bU tk vA ra rd ae note)],CA,VA]:=by
 rcases hG.look k with ⟨-,h2, -⟩ | ⟨v',o',V1,D,V2,h1,h2,rfl,⟨ao,rfl,hO⟩, -, -⟩
 ·rw [hl] at h2;cases h2
 ·obtain rfl:o=o':=by rw [hl] at h2;exact Option.some.inj h2
  obtain ⟨jM,cP,DP,eb,cI,yA,r,LF,CF,VF,hP,JI,hM,hF,rfl⟩:=hO
  have XV:=hP.rd
  have dP:=Ml o g
  refine st func62 fun w0 => ?_
  refine gs ?_
  refine gc (mg s tk vA ra rd ae note LA CA hA k hk ao h1) ?_
  rintro _ _ ⟨rfl,rfl⟩
  refine gm ?_;intro g10 C10 acD
  have hC:C10=[(g10,ax (aR (bC (cy o g) 0)) 121)]:=by
   rcases acD.2.2 with ⟨h,_⟩ | ⟨g',c',r',hv,rfl,_,_,hlen⟩
   ·cases h
   ·cases hv
    have h3:=acD.1
    obtain rfl:r'=[]:=eq_nil_of_length_eq_zero oZ
    rw [append_nil]
    have:(replicate 64 ai.lay).flatten=aR (bC (cy o g) 0):=by
     rw [qW 64 ai Pt.lay];rfl
    rw [<-this];rfl
  subst hC
  refine gl [2,8,10,24,25] (fun (i:Nat)=>[(26,.int .i64 i)]) (fun i=>[[(g10,ax (aR (bC (cy o g) i)) 121)]]) (fun i=>i<=64) (fun i=>64 - i) 0 oZ ?_
  rintro i hi
  refine gi ?_ ?_ <;> intro br
  ·have bh:i<64:=oZ
   have HM:(cy o g)[i]? = some (nH o g i):=QV bh
   have yt:=ov dP hi
   have py:∀b:Bool,nH o g i=b->(match b with | true=>(aR (bC (cy o g) i)).set (i*9+3) (.int .u64 1) | false=>aR (bC (cy o g) i))=aR (bC (cy o g) (i+1)):=fun b hb=>by
    rw [hb] at HM
    cases b
    ·rw [EZ dP bh HM]
    ·exact zx dP bh HM
   rcases hF.look i with ⟨f1,f2, -⟩ | ⟨vf,bf,W1,F1,W2,f1,f2, -⟩
   ·by_cases hip:i<o.aA.length
    ·obtain ⟨x,hx⟩:∃x,o.aA[i]? = some x:=⟨_,getElem?_eq_getElem hip⟩
     have hs:=av Pt.ak o.aA i _ hx
     have U3:=hs 3 _ rfl
     obtain ⟨gP,oP,rfl⟩:=XV.addr oZ
     refine gi ?_ ?_ <;> intro hbt
     ·have py:(aR (bC (cy o g) i)).set (i*9+3) (.int .u64 1)=aR (bC (cy o g) (i+1)):=py true (by unfold nH;rw [hx,f2];simp;try omega)
      refine gn ?_
      rw [py]
      exact ⟨i+1,by omega,by omega,ar,_,aa⟩
     ·have py:aR (bC (cy o g) i)=aR (bC (cy o g) (i+1)):=py false (by unfold nH;rw [hx,f2];simp;try omega)
      refine gn ?_
      rw [py]
      exact ⟨i+1,by omega,by omega,ar,_,aa⟩
    ·have hx:o.aA[i]? = none:=getElem?_eq_none oZ
     have py:aR (bC (cy o g) i)=aR (bC (cy o g) (i+1)):=py false (by unfold nH;rw [hx,f2];rfl)
     refine gn ?_
     rw [py]
     exact ⟨i+1,by omega,by omega,ar,_,aa⟩
   ·by_cases hip:i<o.aA.length
    ·obtain ⟨x,hx⟩:∃x,o.aA[i]? = some x:=⟨_,getElem?_eq_getElem hip⟩
     have hs:=av Pt.ak o.aA i _ hx
     have U3:=hs 3 _ rfl
     obtain ⟨gP,oP,rfl⟩:=XV.addr oZ
     refine gi ?_ ?_ <;> intro hbt
     ·have py:(aR (bC (cy o g) i)).set (i*9+3) (.int .u64 1)=aR (bC (cy o g) (i+1)):=py true (by unfold nH;rw [hx,f2];simp;try omega)
      have ag6:((aR (bC (cy o g) i)).set (i*9+3) (.int .u64 1)).length=576:=by rw [length_set];exact yt
      refine gn ?_
      rw [set_set,py]
      exact ⟨i+1,by omega,by omega,ar,_,aa⟩
     ·have py:(aR (bC (cy o g) i)).set (i*9+3) (.int .u64 1)=aR (bC (cy o g) (i+1)):=py true (by unfold nH;rw [hx,f2];simp;try omega)
      refine gn ?_
      rw [py]
      exact ⟨i+1,by omega,by omega,ar,_,aa⟩
    ·have hx:o.aA[i]? = none:=getElem?_eq_none oZ
     have py:(aR (bC (cy o g) i)).set (i*9+3) (.int .u64 1)=aR (bC (cy o g) (i+1)):=py true (by unfold nH;rw [hx,f2];rfl)
     refine gn ?_
     rw [py]
     exact ⟨i+1,by omega,by omega,ar,_,aa⟩
  ·obtain rfl:i=64:=oZ
   have ju:bC (cy o g) 64=(cy o g).map qP:=by unfold bC;rw [take_of_length_le oZ];simp
   rw [ju]
   have hR:Rd [(g10,ax (aR ((cy o g).map qP)) 121)] 9 (.slice (some ⟨g10,0,none⟩) 64 64) 64 (aR ((cy o g).map qP)):=by
    have h9:=ov dP (Nat.le_refl 64)
    rw [ju] at h9
    exact ay oZ (fun u hu=>by obtain ⟨x, -,hx⟩:=mem_flatMap.1 hu;exact Pt.bK x u hx) oZ _
   refine gc (UZ _ _ 64 o.size (cy o g) dP bu hR) ?_
   rintro _ _ ⟨ad,c,D,rfl,hD,rfl⟩
   refine gz ?_
   exact fin ⟨ad,c,D,rfl,hD,rfl⟩ aa
end
end Go.Proofs.YtpabnmeponmonaaGreatDoor
namespace Go.Sl
def bG:Ob:=⟨true,0,ai,[],[],[],false⟩
def Ob.at (all:List (Int×Ob))(k:Int):Ob:=(aJ all k).getD bG
def wrB (old:Nat->UInt8)(at_:Nat)(b:List UInt8)(j:Nat):UInt8:=if at_<=j/\j<at_+b.length then (b[j - at_]?).getD 0 else old j
def j8 (old:Nat->UInt8)(at_:Nat)(b:List UInt8)(size i:Nat):List UInt8:=(List.range' (i*1024) (aV size i)).map (wrB old at_ b)
theorem iV (old:Nat->UInt8)(at_:Nat)(b:List UInt8)(size i:Nat):(j8 old at_ b size i).length=aV size i:=by simp [j8]
def df (at_ m:Nat)(q:Int):Bool:=decide (0<=q/\(at_:Int)<(q+1)*1024/\q*1024<at_+m/\0<m)
theorem JQ {old:Nat->UInt8}{at_:Nat}{b:List UInt8}{size i f d L:Nat}(hL:L=aV size i)(hs:at_+b.length<=size)(h1:at_<=f)(h2:i*1024<=f)(h3:f<(i+1)*1024)(h4:f<at_+b.length)(hd:d=f - i*1024)(h5:f=at_\/f=i*1024) :
  ((List.range' (i*1024) L).map old).take d++(b.drop (f - at_)).take (min ((i+1)*1024) (at_+b.length) - f)++((List.range' (i*1024) L).map old).drop (d+(min ((i+1)*1024) (at_+b.length) - f))=j8 old at_ b size i:=by
 have Mn:L=min 1024 (size - i*1024):=hL
 obtain ⟨e,he⟩:∃e,e=min ((i+1)*1024) (at_+b.length) - f:=⟨_,rfl⟩
 rw [<-he]
 apply ext_getElem
 ·rw [iV,<-hL];simp;omega
 ·intro k k1 k2
  rw [iV,<-hL] at k2
  simp only [j8,getElem_map,getElem_range',Nat.one_mul]
  by_cases c1:k<d
  ·rw [getElem_append_left (by simp;omega),getElem_append_left (by simp;omega)]
   simp only [getElem_take,getElem_map,getElem_range',Nat.one_mul,wrB]
   rw [if_neg oZ]
  ·by_cases c2:k<d+e
   ·rw [getElem_append_left (by simp;omega),getElem_append_right (by simp;omega)]
    simp only [getElem_take,getElem_drop,length_take,length_map,length_range',wrB]
    rw [if_pos oZ,getElem?_eq_getElem oZ]
    simp only [Option.getD_some]
    congr 1
    omega
   ·rw [getElem_append_right (by simp;omega)]
    simp only [getElem_drop,getElem_map,getElem_range',Nat.one_mul,length_append,length_take,length_drop,length_map,length_range',wrB]
    rw [if_neg oZ]
    congr 1
    omega
theorem aau {g m:Nat}{T:TypeId}{b:List UInt8}(h:b.length=m)(hm:m<=4611686018427387904):aC [(g,ax (au b) T)] T 1 (.slice (some ⟨g,0,none⟩) m m) m (au b):=by
 have:=ve (T:=T) (g:=g) (c:=m) (s:=1) (m:=m) (xs:=au b) (r:=[]) (by rw [aq,h,Nat.mul_one]) (aP _) (Nat.le_refl _) (by simp only [maxLen];omega) (by rw [aq,h];simp)
 rwa [append_nil] at this
theorem xn {a f g:Nat}{q:Int}{i:Nat}(hi:i=f / 1024)(h1:a<=f)(h2:f<g)(h3:g<=(i+1)*1024)(h4:f=a\/f % 1024=0):df a (g - a) q=(df a (f - a) q||decide (q=i)):=by
 subst hi
 simp only [df]
 rw [<-Bool.decide_or]
 exact decide_eq_decide.2 oZ
theorem zy {a f:Nat}{i:Nat}(hi:i=f / 1024)(h4:f=a\/f % 1024=0):df a (f - a) i=false:=by
 subst hi
 simp only [df]
 exact decide_eq_false oZ
theorem rf {β:Type}{MA MB:List (Int×β)}{q:Int}{x:β}(hn:((MA++(q,x) :: MB).map (·.1)).Nodup)(p:Int):aJ (MA++MB) p=if p=q then none else aJ (MA++(q,x) :: MB) p:=by
 rw [map_append,map_cons,nodup_append,nodup_cons] at hn
 obtain ⟨n1,⟨n2,n3⟩,n4⟩:=hn
 have key:∀(l:List (Int×β)),(∀e∈l,e.1≠p)->l.find? (fun e=>e.1==p)=none:=fun l h=>by
  rw [find?_eq_none];intro e he;simpa using h e he
 by_cases c:p=q
 ·subst c
  rw [if_pos rfl]
  unfold aJ
  rw [key _ (fun e he => ?_)]; · rfl
  rcases List.mem_append.1 he with he | he
  ·exact n4 e.1 (mem_map_of_mem he) _ (mem_cons_self ..)
  ·rintro rfl;exact n2 (mem_map_of_mem (f:=(·.1)) he)
 ·rw [if_neg c]
  unfold aJ
  rw [find?_append,find?_append,find?_cons_of_neg (by simpa using Ne.symm c)]
section
variable {β:Type}{R:Value->β->Chunk->Prop}
theorem fo.pull {A B:List (Int×Value)}{q:Int}{v:Value}:∀ {M:List (Int×β)} {V:Chunk},fo R (A++(q,v) :: B) M V ->
  ∃MA x MB V1 D V2,M=MA++(q,x) :: MB/\V=V1++(D++V2)/\R v x D/\fo R (A++B) (MA++MB) (V1++V2):=by
 induction A with
 | nil =>
  intro M V h
  cases M with
  | nil=>exact h.elim
  | cons e M =>
   obtain ⟨g,x⟩:=e
   obtain ⟨rfl,D,V',hD,hV,rfl⟩:=h
   exact ⟨[],x,M,[],D,V',rfl,rfl,hD,hV⟩
 | cons a A ih =>
  intro M V h
  obtain ⟨p,u⟩:=a
  cases M with
  | nil=>exact h.elim
  | cons e M =>
   obtain ⟨g,y⟩:=e
   obtain ⟨rfl,D,V',hD,hV,rfl⟩:=h
   obtain ⟨MA,x,MB,V1,E,V2,rfl,rfl,h3,h4⟩:=ih hV
   exact ⟨(p,y) :: MA,x,MB,D++V1,E,V2,rfl,by rw [append_assoc],h3,rfl,D,V1++V2,hD,h4,by rw [append_assoc]⟩
end
end Go.Sl
namespace Go.Proofs.YtpabnmeponmonaaGreatDoor
section
variable (s tk:Nat)(vA:Value)(ra rd ae note:Nat)
theorem HN (k a:Int)(ad:Option Addr)(m c:Nat)(h:¬(1<=k/\k<=112)\/a<0\/65536<a\/65536 - a<m):Ct 48 [ptr s,.int .i64 k,.int .i64 a,.slice ad m c] [[(s,bU tk vA ra rd ae note)]] fun u Bs=>u = .int .i64 1/\Bs=[[(s,bU tk vA ra rd ae note)]]:=by
 have hh:=j1 k
 by_cases hk:1<=k/\k<=112
 ·rw [decide_eq_true hk] at hh
  refine st func48 fun w0 => ?_
  refine gc hh ?_
  rintro _ _ ⟨rfl,rfl⟩
  refine gg ?_ ?_ <;> intro h1
  ·refine gz ?_
   exact fin ⟨rfl,rfl⟩ aa
  refine gg ?_ ?_ <;> intro h2
  ·refine gz ?_
   exact fin ⟨rfl,rfl⟩ aa
  have hw:IntKind.i64.wrap (65536 - a)=65536 - a:=IntWalk.i64_in _ oZ
  have h3:65536 - a<m:=oZ
  refine gz ?_
  exact fin ⟨rfl,rfl⟩ aa
 ·rw [decide_eq_false hk] at hh
  refine st func48 fun w0 => ?_
  refine gc hh ?_
  rintro _ _ ⟨rfl,rfl⟩
  refine gz ?_
  exact fin ⟨rfl,rfl⟩ aa
end
section
variable (T:TypeId)(fr:Nat×Nat)(p:Nat)(qs:List Nat)(t pool:Nat)(tp:Tp)(pr:Bool)(n:Nat)(ls:List (Option Lv))(no:Nat)(V:Chunk)(hV:iZ t pool tp pr n ls no V)(ok:dj tp pr n ls.length)(dq:n<=2048)(R:Rk)(C:Chunk)(hC:bj p qs R C)(ho:dE qs R n ls)(hall:∀x∈ls,x≠none)(db:R.off=false)
variable (s:Nat)(vA:Value)(ra rd ae note:Nat)(LA:List (Int×Value))(CA:Chunk)(hA:Mp ra .i64 LA CA)(all:List (Int×Ob))(VA:Chunk)(hG:fo yd LA all VA)(bu:∀e∈all,e.2.size<=65536)(hlen:all.length<=112)
include hV ok dq hA hG bu hlen
theorem E0 (k:Int)(hk:1<=k/\k<=112)(a m:Nat)(Mk:a+m<=65536)(ad:Option Addr)(c:Nat)(hf:px all k (max (Ob.at all k).size (a+m)) (bD pr ls.length n / aL pr ls.length 1024 / 4 - 10)=false) :
  Ct 48 [ptr s,.int .i64 k,.int .i64 a,.slice ad m c] [[(s,bU t vA ra rd ae note)],V,CA,VA] fun u Bs=>u = .int .i64 3/\Bs=[[(s,bU t vA ra rd ae note)],V,CA,VA]:=by
 have hh:=j1 k
 rw [decide_eq_true hk] at hh
 have bJ:=sV s t pool tp pr n ls no V hV ok dq vA ra rd ae note LA CA hA all VA hG bu hlen k
 rcases hG.look k with ⟨h1,h2, -⟩ | ⟨v',o,V1,D,V2,h1,h2,rfl,⟨ao,rfl,hO⟩, -, -⟩
 ·have ic:Ob.at all k=bG:=by unfold Ob.at;rw [h2];rfl
  rw [ic] at hf
  have bJ:=bJ (max bG.size (a+m)) (by simp only [bG];omega)
  rw [hf] at bJ
  refine st func48 fun w0 => ?_
  refine gc hh ?_
  rintro _ _ ⟨rfl,rfl⟩
  refine vY .i64 ?_;intro r CF hM
  refine ga ?_;intro ao
  refine go ?_
  rw [show max (0:Int) ((a+m:Nat):Int)=((max bG.size (a+m):Nat):Int) by simp only [bG];omega]
  refine gc bJ ?_
  rintro _ _ ⟨rfl,rfl⟩
  refine gz ?_
  exact fin ⟨rfl,rfl⟩ aa
 ·have ic:Ob.at all k=o:=by unfold Ob.at;rw [h2];rfl
  rw [ic] at hf
  have QY:o.size<=65536:=bu _ (aI h2)
  have bJ:=bJ (max o.size (a+m)) oZ
  rw [hf] at bJ
  obtain ⟨jM,cP,DP,eb,cI,DI,r,LF,CF,VF,hP,hI,hM,hF,rfl⟩:=hO
  refine st func48 fun w0 => ?_
  refine gs ?_
  refine gc hh ?_
  rintro _ _ ⟨rfl,rfl⟩
  refine go ?_
  rw [show max (o.size:Int) ((a+m:Nat):Int)=((max o.size (a+m):Nat):Int) by omega]
  refine gc bJ ?_
  rintro _ _ ⟨rfl,rfl⟩
  refine gs ?_
  refine gz ?_
  exact fin ⟨rfl,rfl⟩ aa
end
end Go.Proofs.YtpabnmeponmonaaGreatDoor
namespace Go.Sl
def aZ (z:Nat):Nat:=(z+1023) / 1024
def j2 (rd:Pt->List UInt8)(o:Ob)(z:Nat)(q:Int):Option (List UInt8):=if q<aZ z then (if 0<z % 1024/\q=(z / 1024:Nat) then some ((o.gB rd (z / 1024)).take (z % 1024)) else aJ o.fresh q) else none
theorem fo.acE {β:Type}{R:Value->β->Chunk->Prop}{L:List (Int×Value)}{M:List (Int×β)}{V:Chunk}(h:fo R L M V)(q:Int):∃V1 D0 V2,V=V1++(D0++V2)/\∀v x D,R v x D->fo R (iw L q v) (eu M q x) (V1++(D++V2)):=by
 rcases h.look q with ⟨-, -,h3⟩ | ⟨v,x,V1,D,V2, -, -,h3, -, -,h5⟩
 ·exact ⟨V,[],[],by simp,fun v x D hD=>by rw [append_nil];exact h3 v x D hD⟩
 ·exact ⟨V1,D,V2,h3,h5⟩
end Go.Sl
namespace Go.Proofs.YtpabnmeponmonaaGreatDoor
theorem eG (O:Chunk)(ad:Option Addr)(m c:Nat)(xs:List Value)(hR:Rd O 9 (.slice ad m c) m xs)(hm:m<=100000):Ct 118 [.slice ad m c] [O] fun u Bs=>∃bz c' D',u = .slice bz m c'/\aC D' 121 9 (.slice bz m c') m xs/\Bs=[D',O]:=by
 by_cases h1:1<=m
 ·exact Eh O ad m c xs hR ⟨h1,hm⟩
 ·obtain rfl:m=0:=oZ
  have Xq:xs=[]:=eq_nil_of_length_eq_zero (by have:=hR.1;omega)
  subst Xq
  cases ad with
  | none =>
   refine st func118 fun w0 => ?_
   refine gz ?_
   exact fin ⟨none,0,[],rfl,aC.nil _ _,rfl⟩ aa
  | some z =>
   refine st func118 fun w0 => ?_
   refine gm ?_;intro b
   have hB:aC [(b,ax [] 121)] 121 9 (.slice (some ⟨b,0,none⟩) 0 0) 0 []:=⟨rfl,by simp,.inr ⟨b,0,[],rfl,rfl,by omega,by simp [maxLen],rfl⟩⟩
   refine gp ?_;intro bz c' C' bF
   rw [Nat.zero_add,nil_append] at bF
   refine gz ?_
   exact fin ⟨bz,c',C',by rw [Nat.zero_add],bF,rfl⟩ aa
section
variable (T:TypeId)(fr:Nat×Nat)(p:Nat)(qs:List Nat)(t pool:Nat)(tp:Tp)(pr:Bool)(n:Nat)(ls:List (Option Lv))(no:Nat)(V:Chunk)(hV:iZ t pool tp pr n ls no V)(ok:dj tp pr n ls.length)(dq:n<=2048)(R:Rk)(C:Chunk)(hC:bj p qs R C)(ho:dE qs R n ls)(hall:∀x∈ls,x≠none)(db:R.off=false)
variable (s:Nat)(vA:Value)(ra rd ae note:Nat)(LA:List (Int×Value))(CA:Chunk)(hA:Mp ra .i64 LA CA)(all:List (Int×Ob))(VA:Chunk)(hG:fo yd LA all VA)(bu:∀e∈all,e.2.size<=65536)(hlen:all.length<=112)
theorem HO (k z:Int)(h:z<0\/65536<z):Ct 50 [ptr s,.int .i64 k,.int .i64 z] [[(s,bU t vA ra rd ae note)]] fun u Bs=>u = .int .i64 1/\Bs=[[(s,bU t vA ra rd ae note)]]:=by
 refine st func50 fun w0 => ?_
 rcases (show z<0\/(¬z<0/\65536<z) by omega) with h1 | ⟨h1,h2⟩
 ·refine gz ?_
  exact fin ⟨rfl,rfl⟩ aa
 ·refine gz ?_
  exact fin ⟨rfl,rfl⟩ aa
include hA hG
theorem Mo (k:Int)(z:Nat)(hz:z<=65536)(h:(dH all k).2≠0):Ct 50 [ptr s,.int .i64 k,.int .i64 z] [[(s,bU t vA ra rd ae note)],CA,VA] fun u Bs=>u = .int .i64 (dH all k).2/\Bs=[[(s,bU t vA ra rd ae note)],CA,VA]:=by
 by_cases hk:1<=k/\k<=112
 ·rcases hG.look k with ⟨h1,h2, -⟩ | ⟨v',o,V1,D,V2,h1,h2, -⟩
  ·rw [fA hk h2]
   refine st func50 fun w0 => ?_
   refine gc (og s t vA ra rd ae note LA CA hA k hk h1) ?_
   rintro _ _ ⟨rfl,rfl⟩
   refine gz ?_
   exact fin ⟨rfl,rfl⟩ aa
  ·rw [eY hk h2] at h;exact absurd rfl h
 ·rw [ed hk]
  refine st func50 fun w0 => ?_
  refine gc (lB s t vA ra rd ae note k hk) ?_
  rintro _ _ ⟨rfl,rfl⟩
  refine gz ?_
  exact fin ⟨rfl,rfl⟩ aa
include hV ok dq bu hlen
theorem E3 (k:Int)(hk:1<=k/\k<=112)(z:Nat)(hz:z<=65536)(o:Ob)(hl:aJ all k=some o)(hf:px all k z (bD pr ls.length n / aL pr ls.length 1024 / 4 - 10)=false):Ct 50 [ptr s,.int .i64 k,.int .i64 z] [[(s,bU t vA ra rd ae note)],V,CA,VA] fun u Bs=>u = .int .i64 3/\Bs=[[(s,bU t vA ra rd ae note)],V,CA,VA]:=by
 have bJ:=sV s t pool tp pr n ls no V hV ok dq vA ra rd ae note LA CA hA all VA hG bu hlen k z hz
 rw [hf] at bJ
 rcases hG.look k with ⟨-,h2, -⟩ | ⟨v',o',V1,D,V2,h1,h2,JR,⟨ao,rfl,hO⟩, -, -⟩
 ·rw [hl] at h2;cases h2
 ·refine st func50 fun w0 => ?_
  refine gc (mg s t vA ra rd ae note LA CA hA k hk ao h1) ?_
  rintro _ _ ⟨rfl,rfl⟩
  refine gc bJ ?_
  rintro _ _ ⟨rfl,rfl⟩
  refine gz ?_
  exact fin ⟨rfl,rfl⟩ aa
include hC ho hall db
theorem QZ (k:Int)(hk:1<=k/\k<=112)(z:Nat)(hz:z<=65536)(o:Ob)(hl:aJ all k=some o)(yl:∀e∈o.fresh,0<=e.1/\e.1<=64)(hf:px all k z (bD pr ls.length n / aL pr ls.length 1024 / 4 - 10)=true)
  (dJ:Pt->List UInt8) (QL:∀x∈o.aA,x≠ai->Mf R ls pr n x (dJ x)) (pv:∀e∈o.fresh,e.2.length<=1024) (mU:o.aA.length<=64):Ct 50 [ptr s,.int .i64 k,.int .i64 z] [[(s,bU t vA ra rd ae note)],gK T fr,C,V,CA,VA] fun u Bs=>u = .int .i64 0/\∃V' cf,(∀q,aJ cf q=if z<o.size then j2 dJ o z q else aJ o.fresh q) /\
   fo yd LA (eu all k { o with size:=z,aA:=if z<o.size then o.aA.take (aZ z) else o.aA,fresh:=cf,clean:=false }) V'/\Bs=[[(s,bU t vA ra rd ae note)],gK T fr,C,V,CA,V']:=by
 have bJ:=sV s t pool tp pr n ls no V hV ok dq vA ra rd ae note LA CA hA all VA hG bu hlen k z hz
 rw [hf] at bJ
 rcases hG.look k with ⟨-,h2, -⟩ | ⟨v',o',V1,D,V2,h1,h2,rfl,⟨ao,rfl,CB⟩,bR, -⟩
 ·rw [hl] at h2;cases h2
 ·obtain rfl:o=o':=by rw [hl] at h2;exact Option.some.inj h2
  have QY:o.size<=65536:=bu _ (aI hl)
  have eD:=fun i hi=>rb T fr p qs t pool tp pr n ls no V hV ok R C hC ho hall db s vA ra rd ae note ao o QY D CB i hi dJ (fun x hx=>QL x (mem_of_getElem? hx)) pv
  obtain ⟨jM,cP,DP,eb,cI,DX,r,LF,CF,VF,hP,Br,hM,hF,rfl⟩:=CB
  have XV:=hP.rd
  refine st func50 fun w0 => ?_
  refine gs ?_
  refine gc (mg s t vA ra rd ae note LA CA hA k hk ao h1) ?_
  rintro _ _ ⟨rfl,rfl⟩
  refine gc bJ ?_
  rintro _ _ ⟨rfl,rfl⟩
  refine gs ?_
  refine gi ?_ ?_ <;> intro QS
  ·have Q0:z<o.size:=oZ
   rw [if_pos Q0]
   obtain ⟨kp,acF⟩:∃kp,kp=min (aZ z) o.aA.length:=⟨_,rfl⟩
   have kI:(o.aA.take (aZ z)).length=kp:=by rw [length_take,acF]
   have jN:aZ z<=64:=by unfold aZ;omega
   have qc:((aR o.aA).drop (0*9)).take ((kp - 0)*9)=aR (o.aA.take (aZ z)):=by
    rw [Nat.zero_mul,drop_zero,Nat.sub_zero]
    show (flatMap _ _).take (kp*9)=flatMap _ _
    rw [k9 Pt.ak,acF]
    congr 1
    refine take_eq_take_iff.2 ?_
    omega
   have IU:kp - 0=kp:=rfl
   have ag7:=hP.eH
   refine gi ?_ ?_ <;> intro ph
   ·obtain ⟨fq,hfq⟩:∃l,l=(o.gB dJ (z / 1024)).take (z % 1024):=⟨_,rfl⟩
    have eD:=eD (z / 1024) oZ
    have Mn:aV o.size (z / 1024)=min 1024 (o.size - z / 1024*1024):=rfl
    obtain ⟨L,hL⟩:∃L,L=aV o.size (z / 1024):=⟨_,rfl⟩
    have P0:(o.gB dJ (z / 1024)).length=L:=by rw [Ob.gB,ec,hL]
    rw [<-hL] at eD Mn
    have JJ:z % 1024<=L:=oZ
    refine gc eD ?_
    rintro _ _ ⟨g16,rfl,rfl⟩
    have afj:mf (.slice (some ⟨g16,0,none⟩) (z % 1024) (L - 0)) fq [(g16,ax (au (o.gB dJ (z / 1024))) 5)]:=by
     unfold mf
     have ju:fq.length=z % 1024:=by rw [hfq,length_take,P0];omega
     have h:=ve (T:=5) (g:=g16) (c:=L - 0) (s:=1) (m:=z % 1024) (xs:=au fq) (r:=au ((o.gB dJ (z / 1024)).drop (z % 1024))) (by rw [aq,ju,Nat.mul_one]) (aP _) oZ (by simp only [maxLen];omega) (by rw [aq,aq,ju,length_drop,P0];omega)
     rw [<-aG,hfq,take_append_drop,<-hfq] at h
     rw [ju];exact h
    obtain ⟨W1,D0,W2,hVF,mF⟩:=hF.acE ((z / 1024:Nat):Int)
    subst hVF
    have hF1:=mF _ _ _ afj
    have hqA:∀q:Int,aJ (eu o.fresh ((z / 1024:Nat):Int) fq) q=if 0<z % 1024/\q=(z / 1024:Nat) then some ((o.gB dJ (z / 1024)).take (z % 1024)) else aJ o.fresh q:=fun q=>by
     rw [iI]
     by_cases c:((z / 1024:Nat):Int)=q
     ·rw [if_pos c,if_pos ⟨by omega,c.symm⟩,hfq]
     ·rw [if_neg c,if_neg (fun h=>c h.2.symm)]
    refine gs ?_
    refine gv ?_
    refine gu ?_;intro CF1 hM1
    have HP:((z+1024 - 1) / 1024:Nat)=aZ z:=by unfold aZ;omega
    refine gd [0,4,8,12,16,20,24,28,32,36,40,44,48,53,56,60,67] ?_
    refine go ?_
    rw [HP,show min ((aZ z:Nat):Int) (o.aA.length:Int)=(kp:Int) by omega]
    refine gw ?_;intro ad2 kY
    refine gc (eG _ ad2 kp _ _ kY oZ) ?_
    rintro _ _ ⟨ia,c3,DP3,rfl,hP3,rfl⟩
    refine gr ?_
    intro it DI hI
    refine gl [2,7,13,97] (fun (_:List (Int×Value)×List (Int×List UInt8)×Chunk×Chunk×List (Int×Value)×Chunk)=>[]) (fun (_,_,CF,VF,_,DI)=>[CF,VF,DI]) (fun (E7,cf,xf,Bu,rest,DI)=>y8 r it .i64 E7 rest xf DI/\fo mf E7 cf Bu/\∀q,aJ cf q=if (aZ z:Int)<=q/\q∉rest.map (·.1) then none else aJ (eu o.fresh ((z / 1024:Nat):Int) fq) q) (fun (_,_,_,_,rest,_)=>rest.length) ((iw LF ((z / 1024:Nat):Int) (.slice (some ⟨g16,0,none⟩) (z % 1024) (L - 0))),(eu o.fresh ((z / 1024:Nat):Int) fq),CF1,(W1++([(g16,ax (au (o.gB dJ (z / 1024))) 5)]++W2)),(iw LF ((z / 1024:Nat):Int) (.slice (some ⟨g16,0,none⟩) (z % 1024) (L - 0))),DI) ⟨hI,hF1,fun q=>by
     by_cases c:(aZ z:Int)<=q/\q∉(iw LF ((z / 1024:Nat):Int) (.slice (some ⟨g16,0,none⟩) (z % 1024) (L - 0))).map (·.1)
     ·rw [if_pos c]
      cases hc:aJ (eu o.fresh ((z / 1024:Nat):Int) fq) q with
      | none=>rfl
      | some x=>exact absurd (by rw [<-hF1.keys];exact mem_map_of_mem (f:=(·.1)) (aI hc)) c.2
     ·rw [if_neg c]⟩ ?_
    clear hI eD bJ
    rintro ⟨E7,cf,xf,Bu,rest,DI⟩ ⟨hI,Mq,nW⟩
    refine OT ?_ ?_
    ·rintro rfl
     have oK:∀q,aJ cf q=if z<o.size then j2 dJ o z q else aJ o.fresh q:=fun q=>by
      rw [if_pos Q0,nW,j2]
      by_cases c:q<(aZ z:Int)
      ·rw [if_pos c,if_neg oZ];exact hqA q
      ·rw [if_neg c,if_pos ⟨by omega,by simp⟩]
     refine gz ?_
     exact fin ⟨rfl,_,cf,oK,bR { o with size:=z,aA:=o.aA.take (aZ z),fresh:=cf,clean:=false } ([(ao,yx o.used z o.root (.slice ia kp c3) (.slice eb o.index.length cI) r false)]++(DP3++(DX++(xf++Bu)))) ⟨ao,rfl,ia,c3,DP3,_,_,DX,r,E7,xf,Bu,by rw [kI];exact hP3,Br,hI.mp,Mq,by rw [kI]⟩,rfl⟩ aa
    ·rintro X q v Y yA rfl iy rO hE
     have eF:=hI.nodup.1
     have hLn:=hI.mp.nodup
     have NB:q∉(X++Y).map (·.1):=by
      rw [map_append,map_cons,nodup_append,nodup_cons] at eF
      rw [map_append,List.mem_append,not_or]
      exact ⟨fun h=>eF.2.2 q h q (mem_cons_self ..) rfl,eF.2.1.1⟩
     have iK:(X++Y).length<(X++(q,v) :: Y).length:=by simp only [length_append,length_cons];omega
     have Cn:∀x:Int,x∈(X++(q,v) :: Y).map (·.1)↔x=q\/x∈(X++Y).map (·.1):=fun x=>by
      simp only [map_append,map_cons,List.mem_append,List.mem_cons]
      constructor
      ·rintro (h | h | h)
       ·exact .inr (.inl h)
       ·exact .inl h
       ·exact .inr (.inr h)
      ·rintro (h | h | h)
       ·exact .inr (.inl h)
       ·exact .inl h
       ·exact .inr (.inr h)
     refine OU ?_
     refine gi ?_ ?_ <;> intro yS
     ·obtain ⟨x,U1,D9,U2,hx,rfl,Gq,Q1⟩:=Mq.cut hLn iy
      have acz:(kx E7 q).isSome=true:=by rw [iy];rfl
      have qd:iN (X++Y) q=X++Y:=xd NB
      refine gs ?_
      refine gx ?_
      intro Q2 JI
      rw [qd] at JI
      refine gn ?_
      refine ⟨(_,_,Q2,U1++U2,X++Y,yA),⟨JI,Q1,fun x => ?_⟩,iK,ar,_,aa⟩
      rw [Bm,nW]
      by_cases c:q=x
      ·subst c;rw [if_pos rfl,if_pos ⟨yS,NB⟩]
      ·rw [if_neg c]
       by_cases c2:(aZ z:Int)<=x/\x∉(X++Y).map (·.1)
       ·rw [if_pos c2,if_pos ⟨c2.1,fun h=>((Cn x).1 h).elim (fun e=>c e.symm) c2.2⟩]
       ·rw [if_neg c2,if_neg (fun h=>c2 ⟨h.1,fun hx=>h.2 ((Cn x).2 (.inr hx))⟩)]
     ·refine gn ?_
      refine ⟨(E7,cf,xf,Bu,X++Y,yA),⟨rO,Mq,fun x => ?_⟩,iK,ar,_,aa⟩
      rw [nW]
      by_cases c2:(aZ z:Int)<=x/\x∉(X++Y).map (·.1)
      ·rw [if_pos c2,if_pos ⟨c2.1,fun h=>((Cn x).1 h).elim (fun e=>by rw [e] at c2;exact yS c2.1) c2.2⟩]
      ·rw [if_neg c2,if_neg (fun h=>c2 ⟨h.1,fun hx=>h.2 ((Cn x).2 (.inr hx))⟩)]
   ·have hr0:¬0<z % 1024:=oZ
    have hqB:∀q:Int,aJ o.fresh q=if 0<z % 1024/\q=(z / 1024:Nat) then some ((o.gB dJ (z / 1024)).take (z % 1024)) else aJ o.fresh q:=fun q=>by rw [if_neg (fun h=>hr0 h.1)]
    have HP:((z+1024 - 1) / 1024:Nat)=aZ z:=by unfold aZ;omega
    refine gd [0,4,8,12,16,20,24,28,32,36,40,44,48,53,56,60,67] ?_
    refine go ?_
    rw [HP,show min ((aZ z:Nat):Int) (o.aA.length:Int)=(kp:Int) by omega]
    refine gw ?_;intro ad2 kY
    refine gc (eG _ ad2 kp _ _ kY oZ) ?_
    rintro _ _ ⟨ia,c3,DP3,rfl,hP3,rfl⟩
    refine gr ?_
    intro it DI hI
    refine gl [2,7,13,97] (fun (_:List (Int×Value)×List (Int×List UInt8)×Chunk×Chunk×List (Int×Value)×Chunk)=>[]) (fun (_,_,CF,VF,_,DI)=>[CF,VF,DI]) (fun (E7,cf,xf,Bu,rest,DI)=>y8 r it .i64 E7 rest xf DI/\fo mf E7 cf Bu/\∀q,aJ cf q=if (aZ z:Int)<=q/\q∉rest.map (·.1) then none else aJ o.fresh q) (fun (_,_,_,_,rest,_)=>rest.length) (LF,o.fresh,CF,VF,LF,DI) ⟨hI,hF,fun q=>by
     by_cases c:(aZ z:Int)<=q/\q∉LF.map (·.1)
     ·rw [if_pos c]
      cases hc:aJ o.fresh q with
      | none=>rfl
      | some x=>exact absurd (by rw [<-(show fo mf LF o.fresh VF from hF).keys];exact mem_map_of_mem (f:=(·.1)) (aI hc)) c.2
     ·rw [if_neg c]⟩ ?_
    clear hI eD bJ
    rintro ⟨E7,cf,xf,Bu,rest,DI⟩ ⟨hI,Mq,nW⟩
    refine OT ?_ ?_
    ·rintro rfl
     have oK:∀q,aJ cf q=if z<o.size then j2 dJ o z q else aJ o.fresh q:=fun q=>by
      rw [if_pos Q0,nW,j2]
      by_cases c:q<(aZ z:Int)
      ·rw [if_pos c,if_neg oZ];exact hqB q
      ·rw [if_neg c,if_pos ⟨by omega,by simp⟩]
     refine gz ?_
     exact fin ⟨rfl,_,cf,oK,bR { o with size:=z,aA:=o.aA.take (aZ z),fresh:=cf,clean:=false } ([(ao,yx o.used z o.root (.slice ia kp c3) (.slice eb o.index.length cI) r false)]++(DP3++(DX++(xf++Bu)))) ⟨ao,rfl,ia,c3,DP3,_,_,DX,r,E7,xf,Bu,by rw [kI];exact hP3,Br,hI.mp,Mq,by rw [kI]⟩,rfl⟩ aa
    ·rintro X q v Y yA rfl iy rO hE
     have eF:=hI.nodup.1
     have hLn:=hI.mp.nodup
     have NB:q∉(X++Y).map (·.1):=by
      rw [map_append,map_cons,nodup_append,nodup_cons] at eF
      rw [map_append,List.mem_append,not_or]
      exact ⟨fun h=>eF.2.2 q h q (mem_cons_self ..) rfl,eF.2.1.1⟩
     have iK:(X++Y).length<(X++(q,v) :: Y).length:=by simp only [length_append,length_cons];omega
     have Cn:∀x:Int,x∈(X++(q,v) :: Y).map (·.1)↔x=q\/x∈(X++Y).map (·.1):=fun x=>by
      simp only [map_append,map_cons,List.mem_append,List.mem_cons]
      constructor
      ·rintro (h | h | h)
       ·exact .inr (.inl h)
       ·exact .inl h
       ·exact .inr (.inr h)
      ·rintro (h | h | h)
       ·exact .inr (.inl h)
       ·exact .inl h
       ·exact .inr (.inr h)
     refine OU ?_
     refine gi ?_ ?_ <;> intro yS
     ·obtain ⟨x,U1,D9,U2,hx,rfl,Gq,Q1⟩:=Mq.cut hLn iy
      have acz:(kx E7 q).isSome=true:=by rw [iy];rfl
      have qd:iN (X++Y) q=X++Y:=xd NB
      refine gs ?_
      refine gx ?_
      intro Q2 JI
      rw [qd] at JI
      refine gn ?_
      refine ⟨(_,_,Q2,U1++U2,X++Y,yA),⟨JI,Q1,fun x => ?_⟩,iK,ar,_,aa⟩
      rw [Bm,nW]
      by_cases c:q=x
      ·subst c;rw [if_pos rfl,if_pos ⟨yS,NB⟩]
      ·rw [if_neg c]
       by_cases c2:(aZ z:Int)<=x/\x∉(X++Y).map (·.1)
       ·rw [if_pos c2,if_pos ⟨c2.1,fun h=>((Cn x).1 h).elim (fun e=>c e.symm) c2.2⟩]
       ·rw [if_neg c2,if_neg (fun h=>c2 ⟨h.1,fun hx=>h.2 ((Cn x).2 (.inr hx))⟩)]
     ·refine gn ?_
      refine ⟨(E7,cf,xf,Bu,X++Y,yA),⟨rO,Mq,fun x => ?_⟩,iK,ar,_,aa⟩
      rw [nW]
      by_cases c2:(aZ z:Int)<=x/\x∉(X++Y).map (·.1)
      ·rw [if_pos c2,if_pos ⟨c2.1,fun h=>((Cn x).1 h).elim (fun e=>by rw [e] at c2;exact yS c2.1) c2.2⟩]
      ·rw [if_neg c2,if_neg (fun h=>c2 ⟨h.1,fun hx=>h.2 ((Cn x).2 (.inr hx))⟩)]
  ·rw [if_neg oZ]
   have hfq:∀q,aJ o.fresh q=if z<o.size then j2 dJ o z q else aJ o.fresh q:=fun q=>(if_neg oZ).symm
   refine gz ?_
   exact fin ⟨rfl,_,o.fresh,hfq,bR { o with size:=z,clean:=false } ([(ao,yx o.used z o.root (.slice jM o.aA.length cP) (.slice eb o.index.length cI) r false)]++(DP++(DX++(CF++VF)))) ⟨ao,rfl,_,_,DP,_,_,DX,r,LF,CF,VF,hP,Br,hM,hF,rfl⟩,rfl⟩ aa
end
end Go.Proofs.YtpabnmeponmonaaGreatDoor
namespace Go.Sl
theorem WO.acG {X:Cx}{f:Fx}{ops:List Oper}{k:Kt}{Ms:List Chunk}{r:aB}{e:Env}{Ls Rs:List Chunk}{C:Chunk}(hs:iv Ls [C] Rs)(g:WO X f ops k Ms r e (C :: Rs)):WO X f ops k Ms r e Ls:=.mk fun a w E S=>g.ap a w E (S.tt hs)
end Go.Sl
namespace Go.Proofs.YtpabnmeponmonaaGreatDoor
section
variable (t pool:Nat)(tp:Tp)(pr:Bool)(n:Nat)(ls:List (Option Lv))(no:Nat)(V:Chunk)(hV:iZ t pool tp pr n ls no V)(ok:dj tp pr n ls.length)(dq:n<=2048)
variable (s:Nat)(vA:Value)(ra rd ae note:Nat)(LA:List (Int×Value))(CA:Chunk)(hA:Mp ra .i64 LA CA)(all:List (Int×Ob))(VA:Chunk)(hG:fo yd LA all VA)(bu:∀e∈all,e.2.size<=65536)(hlen:all.length<=112)
theorem Mt (k z:Int)(h:¬(1<=z/\z<=112)):Ct 52 [ptr s,.int .i64 k,.int .i64 z] [[(s,bU t vA ra rd ae note)]] fun u Bs=>u = .int .i64 1/\Bs=[[(s,bU t vA ra rd ae note)]]:=by
 have hh:=j1 z
 rw [decide_eq_false h] at hh
 refine st func52 fun w0 => ?_
 refine gc hh ?_
 rintro _ _ ⟨rfl,rfl⟩
 refine gz ?_
 exact fin ⟨rfl,rfl⟩ aa
include hA hG
theorem Q4 (k z:Int)(hz:1<=z/\z<=112)(h:(dH all k).2≠0):Ct 52 [ptr s,.int .i64 k,.int .i64 z] [[(s,bU t vA ra rd ae note)],CA,VA] fun u Bs=>u = .int .i64 (dH all k).2/\Bs=[[(s,bU t vA ra rd ae note)],CA,VA]:=by
 have hh:=j1 z
 rw [decide_eq_true hz] at hh
 by_cases hk:1<=k/\k<=112
 ·rcases hG.look k with ⟨h1,h2, -⟩ | ⟨v',o,V1,D,V2,h1,h2, -⟩
  ·rw [fA hk h2]
   refine st func52 fun w0 => ?_
   refine gc hh ?_
   rintro _ _ ⟨rfl,rfl⟩
   refine gc (og s t vA ra rd ae note LA CA hA k hk h1) ?_
   rintro _ _ ⟨rfl,rfl⟩
   refine gz ?_
   exact fin ⟨rfl,rfl⟩ aa
  ·rw [eY hk h2] at h;exact absurd rfl h
 ·rw [ed hk]
  refine st func52 fun w0 => ?_
  refine gc hh ?_
  rintro _ _ ⟨rfl,rfl⟩
  refine gc (lB s t vA ra rd ae note k hk) ?_
  rintro _ _ ⟨rfl,rfl⟩
  refine gz ?_
  exact fin ⟨rfl,rfl⟩ aa
theorem HQ (k:Int)(hk:1<=k/\k<=112)(o:Ob)(hl:aJ all k=some o):Ct 52 [ptr s,.int .i64 k,.int .i64 k] [[(s,bU t vA ra rd ae note)],CA,VA] fun u Bs=>u = .int .i64 0/\Bs=[[(s,bU t vA ra rd ae note)],CA,VA]:=by
 have hh:=j1 k
 rw [decide_eq_true hk] at hh
 rcases hG.look k with ⟨-,h2, -⟩ | ⟨v',o',V1,D,V2,h1,h2,JR,⟨ao,rfl,hO⟩, -, -⟩
 ·rw [hl] at h2;cases h2
 ·refine st func52 fun w0 => ?_
  refine gc hh ?_
  rintro _ _ ⟨rfl,rfl⟩
  refine gc (mg s t vA ra rd ae note LA CA hA k hk ao h1) ?_
  rintro _ _ ⟨rfl,rfl⟩
  refine gz ?_
  exact fin ⟨rfl,rfl⟩ aa
include hV ok dq bu hlen
theorem HR (k z:Int)(hk:1<=k/\k<=112)(hz:1<=z/\z<=112)(jN:k≠z)(o:Ob)(hl:aJ all k=some o)(hf:px all z o.size (bD pr ls.length n / aL pr ls.length 1024 / 4 - 10)=false):Ct 52 [ptr s,.int .i64 k,.int .i64 z] [[(s,bU t vA ra rd ae note)],V,CA,VA] fun u Bs=>u = .int .i64 3/\Bs=[[(s,bU t vA ra rd ae note)],V,CA,VA]:=by
 have hh:=j1 z
 rw [decide_eq_true hz] at hh
 have bJ:=sV s t pool tp pr n ls no V hV ok dq vA ra rd ae note LA CA hA all VA hG bu hlen z o.size (bu _ (aI hl))
 rw [hf] at bJ
 rcases hG.look k with ⟨-,h2, -⟩ | ⟨v',o',V1,D,V2,h1,h2,rfl,⟨ao,rfl,hO⟩, -, -⟩
 ·rw [hl] at h2;cases h2
 ·obtain rfl:o=o':=by rw [hl] at h2;exact Option.some.inj h2
  obtain ⟨jM,cP,DP,eb,cI,DX,r,LF,CF,VF,hP,Br,hM,hF,rfl⟩:=hO
  refine st func52 fun w0 => ?_
  refine gs ?_
  refine gc hh ?_
  rintro _ _ ⟨rfl,rfl⟩
  refine gc (mg s t vA ra rd ae note LA CA hA k hk ao h1) ?_
  rintro _ _ ⟨rfl,rfl⟩
  refine gc bJ ?_
  rintro _ _ ⟨rfl,rfl⟩
  refine gs ?_
  refine gz ?_
  exact fin ⟨rfl,rfl⟩ aa
theorem Vp (k z:Int)(hk:1<=k/\k<=112)(hz:1<=z/\z<=112)(jN:k≠z)(o:Ob)(hl:aJ all k=some o)(hf:px all z o.size (bD pr ls.length n / aL pr ls.length 1024 / 4 - 10)=true)(pv:∀e∈o.fresh,1<=e.2.length/\e.2.length<=1024)(mU:o.aA.length<=64/\o.index.length<=64) :
  Ct 52 [ptr s,.int .i64 k,.int .i64 z] [[(s,bU t vA ra rd ae note)],V,CA,VA] fun u Bs=>u = .int .i64 0/\∃L' C' V' cf,(∀q,aJ cf q=aJ o.fresh q)/\Mp ra .i64 L' C'/\fo yd L' (eu all z { o with fresh:=cf }) V'/\Bs=[[(s,bU t vA ra rd ae note)],V,C',V']:=by
 have hh:=j1 z
 rw [decide_eq_true hz] at hh
 have bJ:=sV s t pool tp pr n ls no V hV ok dq vA ra rd ae note LA CA hA all VA hG bu hlen z o.size (bu _ (aI hl))
 rw [hf] at bJ
 obtain ⟨Z1,Z0,Z2,hVZ,acH⟩:=hG.acE z
 rcases hG.look k with ⟨-,h2, -⟩ | ⟨v',o',V1,D,V2,h1,h2,JR,⟨ao,rfl,hO⟩, -, -⟩
 ·rw [hl] at h2;cases h2
 ·obtain rfl:o=o':=by rw [hl] at h2;exact Option.some.inj h2
  obtain ⟨jM,cP,DP,eb,cI,DX,r,LF,CF,VF,hP,Br,hM,hF,rfl⟩:=hO
  have XV:=hP.rd
  have yw:=Br.rd
  have Gp:=hF.keys
  refine st func52 fun w0 => ?_
  refine gc hh ?_
  rintro _ _ ⟨rfl,rfl⟩
  refine gc (mg s t vA ra rd ae note LA CA hA k hk ao h1) ?_
  rintro _ _ ⟨rfl,rfl⟩
  rw [JR] at bJ ⊢
  refine gs ?_
  refine gc bJ ?_
  rintro _ _ ⟨rfl,rfl⟩
  refine gs ?_
  refine gdo (aB.cons (0,0) (aB.cons (1,0) (aB.cons (2,0) (aB.cons (3,0) (aB.cons (4,0) (aB.cons (5,0) (aB.cons (6,0) (aB.cons (7,0) (aB.cons (9,0) (aB.cons (10,0) (aB.cons (11,0) (aB.cons (12,0) (aB.cons (15,0) (aB.cons (16,0) (aB.cons (17,0) (aB.cons (18,0) (aB.fork 8 (aB.fork 13 (aB.yh [(14,1),(19,0),(20,3),(21,2)]) 14 (aB.yh [(13,1),(19,0),(20,3),(21,2)])) 14 (aB.yh [(8,1),(13,1),(19,0),(20,3),(21,2)])))))))))))))))))) ?_
  refine gk ?_ ?_
  case' refine_2 =>
   refine vY .i64 ?_;intro r9 C9 h9
   refine gc (eG DP jM o.aA.length cP _ XV oZ) ?_
   rintro _ _ ⟨iY,c1,D1,rfl,Cp,rfl⟩
   refine gc (eG DX eb o.index.length cI _ yw oZ) ?_
   rintro _ _ ⟨ad2,c2,D2,rfl,Dy,rfl⟩
  case' refine_1 =>
   refine gc (eG DP jM o.aA.length cP _ XV oZ) ?_
   rintro _ _ ⟨iY,c1,D1,rfl,Cp,rfl⟩
   refine gk ?_ ?_
  case' refine_1.refine_1 =>
   refine gc (eG DX eb o.index.length cI _ yw oZ) ?_
   rintro _ _ ⟨ad2,c2,D2,rfl,Dy,rfl⟩
   refine vY .i64 ?_;intro r9 C9 h9
  case' refine_1.refine_2 =>
   refine vY .i64 ?_;intro r9 C9 h9
   refine gc (eG DX eb o.index.length cI _ yw oZ) ?_
   rintro _ _ ⟨ad2,c2,D2,rfl,Dy,rfl⟩
  all_goals
   clear bJ
   refine ga ?_;intro g9
   refine gr ?_
   intro it DI hI
   refine gl [0,1,2,7,9,68] (fun (_:List (Int×Value)×List (Int×List UInt8)×Chunk×Chunk×List (Int×Value)×Chunk)=>[]) (fun (_,_,C9,V9,_,DI)=>[C9,V9,DI,V1++([(ao,yx o.used o.size o.root (.slice jM o.aA.length cP) (.slice eb o.index.length cI) r o.clean)]++(DP++(DX++(CF++VF)))++V2)]) (fun (L9,M9,C9,V9,rest,DI)=>Mp r9 .i64 L9 C9/\fo mf L9 M9 V9/\y8 r it .i64 LF rest CF DI/\∀q,aJ M9 q=if q∈rest.map (·.1) then none else aJ o.fresh q) (fun (_,_,_,_,rest,_)=>rest.length) ([],[],C9,[],LF,DI) ⟨h9,rfl,hI,fun q=>by
    by_cases c:q∈LF.map (·.1)
    ·rw [if_pos c];rfl
    ·rw [if_neg c]
     cases hc:aJ o.fresh q with
     | none=>rfl
     | some x=>exact absurd (by rw [<-Gp];exact mem_map_of_mem (f:=(·.1)) (aI hc)) c⟩ ?_
   clear h9 hI
   rintro ⟨L9,M9,C9,V9,rest,DI⟩ ⟨h9,hG9,hI,hq9⟩
   refine gs ?_
   refine OT ?_ ?_
   ·rintro rfl
    have oK:∀q,aJ M9 q=aJ o.fresh q:=fun q=>by rw [hq9,if_neg (by simp)]
    refine go ?_
    refine WO.acG (C:=V1++([(ao,yx o.used o.size o.root (.slice jM o.aA.length cP) (.slice eb o.index.length cI) r o.clean)]++(DP++(DX++(CF++VF)))++V2)) aa ?_
    rw [<-JR,hVZ]
    refine gs ?_
    refine gu ?_;intro CA' eo
    refine gz ?_
    exact fin ⟨rfl,_,CA',_,M9,oK,eo,acH (ptr g9) { o with fresh:=M9 } ([(g9,yx o.used o.size o.root (.slice iY o.aA.length c1) (.slice ad2 o.index.length c2) r9 o.clean)]++(D1++(D2++(C9++V9)))) ⟨g9,rfl,iY,c1,D1,ad2,c2,D2,r9,L9,C9,V9,Cp,Dy,h9,hG9,rfl⟩,rfl⟩ aa
   ·rintro X q v Y yA rfl iy rO hE
    have eF:=hI.nodup.1
    have NB:q∉(X++Y).map (·.1):=by
     rw [map_append,map_cons,nodup_append,nodup_cons] at eF
     rw [map_append,List.mem_append,not_or]
     exact ⟨fun h=>eF.2.2 q h q (mem_cons_self ..) rfl,eF.2.1.1⟩
    have iK:(X++Y).length<(X++(q,v) :: Y).length:=by simp only [length_append,length_cons];omega
    rcases hF.look q with ⟨e1, -⟩ | ⟨v9,b9,U1,D9,U2,e1,e2,rfl,Gq, -, -⟩
    ·rw [iy] at e1;cases e1
    ·obtain rfl:v=v9:=by rw [iy] at e1;exact Option.some.inj e1
     have hb9:1<=b9.length/\b9.length<=1024:=pv _ (aI e2)
     have HS:aC D9 5 1 v b9.length (au b9):=Gq
     obtain ⟨NG,c9,rfl⟩:=HS.slice
     rcases hG9.look q with ⟨e3,e4,k3⟩ | ⟨_,_,_,_,_,_,e4, -⟩
     ·refine OU ?_
      refine gs ?_
      refine gd [0,4,8,12,16,20,25,31] ?_
      refine gc (Eg D9 NG b9.length c9 _ HS.rd oZ) ?_
      rintro _ _ ⟨ag8,c10,D10,rfl,afk,rfl⟩
      refine gu ?_;intro C92 h92
      refine gn ?_
      refine ⟨(_,_,C92,V9++D10,X++Y,yA),⟨h92,k3 _ b9 D10 afk,rO,fun x => ?_⟩,iK,ar,_,aa⟩
      rw [iI,hq9]
      by_cases c:q=x
      ·subst c;rw [if_pos rfl,if_neg NB,e2]
      ·rw [if_neg c]
       have:x∈(X++(q,Value.slice NG b9.length c9) :: Y).map (·.1)↔x∈(X++Y).map (·.1):=by
        simp only [map_append,map_cons,List.mem_append,List.mem_cons]
        constructor
        ·rintro (h | h | h)
         ·exact .inl h
         ·exact absurd h.symm c
         ·exact .inr h
        ·rintro (h | h)
         ·exact .inl h
         ·exact .inr (.inr h)
       simp only [this]
     ·rw [hq9,if_pos (by simp)] at e4;cases e4
end
end Go.Proofs.YtpabnmeponmonaaGreatDoor
