/-
  Texts put together (12).
-/
import Derived.Test.YteldablklnfblaaGreatDoorZTopTwice11
namespace Go.Sl
structure K0 (R:Rk)(ls:List (Option Lv))(pr:Bool)(n:Nat)(x:Pt)(b:List UInt8):Prop where
 cu:x.cu
 ok:x.Ok
 top:x.top=0
 len:x.bytes=b.length
 bd:1<=b.length/\b.length<=1024
 fit:x.at_+aN pr ls.length b.length<=bD pr ls.length n
 sum:sW x.kind ⟨x.a,x.b,x.c,x.d⟩ b=true
 has:vz pr R ls x.at_.toNat b
theorem PF {n:Nat}{b:List UInt8}:dH n b=b.take (min b.length n)++List.replicate (n - min b.length n) 0:=by
 unfold dH
 rcases Nat.le_total b.length n with h | h
 ·rw [Nat.min_eq_left h,List.take_of_length_le h,List.take_of_length_le (Nat.le_refl _)]
 ·rw [Nat.min_eq_right h,show n - b.length=0 by omega,Nat.sub_self]
theorem G1 (L:Nat)(b:List UInt8):(List.replicate L (Value.int .u8 0)).take 0++(ak b).take (min b.length L)++(List.replicate L (Value.int .u8 0)).drop (0+min b.length L)=ak (dH L b):=by
 rw [PF,aE,aL,List.take_zero,List.nil_append,Nat.zero_add,List.drop_replicate]
 congr 1
 simp [ak]
end Go.Sl
namespace Go.Proofs.YteldablklnfblaaGreatDoor
open Go.Sl
set_option maxRecDepth 10000
set_option maxHeartbeats 4000000
theorem Uk (a:Nat)(u:Bool)(n:Nat)(hn:n<=65536)(x:Pt)(vP vI:Value)(r:Nat)(cl:Bool)(i:Nat)(hi:i<=100000):Ct 129 [ptr a,.int .i64 i] [[(a,xF u n x vP vI r cl)]] fun v Bs=>v = .int .i64 (aS n i)/\Bs=[[(a,xF u n x vP vI r cl)]]:=by
 have hw:IntKind.i64.wrap ((n:Int) - ((i*1024:Nat):Int))=(n:Int) - ((i*1024:Nat):Int):=IntWalk.i64_in _ oZ
 refine st Tryz.func129 fun w0 => ?_
 refine go ?_
 rw [show max (0:Int) (min 1024 ((n:Int) - ((i*1024:Nat):Int)))=((aS n i:Nat):Int) by unfold aS;omega]
 refine gz ?_
 exact fin ⟨rfl,rfl⟩ aa
section
variable (s tk:Nat)(vA:Value)(ra rd txg note:Nat)(LA:List (Int×Value))(CA:Chunk)(hA:Mp ra .i64 LA CA)
theorem kR (k:Int)(hk:¬(1<=k/\k<=112)):Ct 73 [ptr s,.int .i64 k] [[(s,bR tk vA ra rd txg note)]] fun u Bs=>u = .tuple #[.pointer none,.int .i64 1]/\Bs=[[(s,bR tk vA ra rd txg note)]]:=by
 have hh:=jC k
 rw [decide_eq_false hk] at hh
 refine st Tryz.func73 fun w0 => ?_
 refine gc hh ?_
 rintro _ _ ⟨rfl,rfl⟩
 refine gz ?_
 exact fin ⟨rfl,rfl⟩ aa
include hA
theorem nA (k:Int)(hk:1<=k/\k<=112)(hl:jU LA k=none):Ct 73 [ptr s,.int .i64 k] [[(s,bR tk vA ra rd txg note)],CA] fun u Bs=>u = .tuple #[.pointer none,.int .i64 130]/\Bs=[[(s,bR tk vA ra rd txg note)],CA]:=by
 have hh:=jC k
 rw [decide_eq_true hk] at hh
 refine st Tryz.func73 fun w0 => ?_
 refine gc hh ?_
 rintro _ _ ⟨rfl,rfl⟩
 refine gz ?_
 exact fin ⟨rfl,rfl⟩ aa
theorem lJ (k:Int)(hk:1<=k/\k<=112)(a:Nat)(hl:jU LA k=some (ptr a)):Ct 73 [ptr s,.int .i64 k] [[(s,bR tk vA ra rd txg note)],CA] fun u Bs=>u = .tuple #[ptr a,.int .i64 0]/\Bs=[[(s,bR tk vA ra rd txg note)],CA]:=by
 have hh:=jC k
 rw [decide_eq_true hk] at hh
 refine st Tryz.func73 fun w0 => ?_
 refine gc hh ?_
 rintro _ _ ⟨rfl,rfl⟩
 refine gz ?_
 exact fin ⟨rfl,rfl⟩ aa
end
section
variable (T:TypeId)(fr:Nat×Nat)(p:Nat)(qs:List Nat)(t pool:Nat)(tp:Tp)(pr:Bool)(n:Nat)(ls:List (Option Lv))(no:Nat)(V:Chunk)(hV:jb t pool tp pr n ls no V)(ok:dK tp pr n ls.length)(R:Rk)(C:Chunk)(hC:bq p qs R C)(ho:dJ qs R n ls)(hall:∀x∈ls,x≠none)(bZ:R.off=false)
variable (s:Nat)(vA:Value)(ra rd txg note:Nat)
include hV ok hC ho hall bZ
theorem PG (x:Pt)(b:List UInt8)(h:K0 R ls pr n x b):Ct 130 [ptr t,x.agg] [gK T fr,C,V] fun u Bs=>∃ad O,u = .tuple #[.slice ad b.length b.length,.int .i64 0]/\Rd O 1 (.slice ad b.length b.length) b.length (ak b)/\Bs=[O,gK T fr,C,V]:=by
 have hg:=h.cu
 have ha:x.at_=(x.at_.toNat:Nat):=by have:=hg.2.2.1;omega
 exact TU T fr p qs t pool tp pr n ls no V hV ok R C hC ho hall bZ x hg h.top x.at_.toNat ha b b.length rfl h.len (by have:=h.fit;omega) h.sum h.has
theorem qd (a:Nat)(o:Ob)(bu:o.size<=65536)(A:Chunk)(hA:WZ a o A)(i:Nat)(hi:i<=100)(dw:Pt->List UInt8)(hl:∀x,o.ay[i]? = some x->x≠ah->K0 R ls pr n x (dw x))(pg:∀e∈o.fresh,e.2.length<=1024) :
  Ct 74 [ptr s,ptr a,.int .i64 i] [[(s,bR t vA ra rd txg note)],gK T fr,C,V,A] fun u Bs=>∃g,u = .tuple #[.slice (some ⟨g,0,none⟩) (aS o.size i) (aS o.size i),.int .i64 0]/\Bs=[[(g,ax (ak (o.fO dw i)) 5)],[(s,bR t vA ra rd txg note)],gK T fr,C,V,A]:=by
 obtain ⟨jl,cP,DP,dQ,cI,DI,r,LF,CF,VF,hP,hI,hM,hF,rfl⟩:=hA
 have dr:=Uk a o.used o.size bu o.root (.slice jl o.ay.length cP) (.slice dQ o.index.length cI) r o.clean i oZ
 have hL:aS o.size i<=1024:=by unfold aS;omega
 have W3:=hP.rd
 have zV:=G1 (aS o.size i) (o.raw dw i)
 have TH:Rd (gK T fr) 1 (.slice none 0 0) 0 (ak []):=Rd.nil _ _
 have afY:=G1 (aS o.size i) []
 have hrl:∀x:Pt,o.ay[i]? = some x->aH o.fresh i=none->o.raw dw i=if x=ah then [] else dw x:=fun x hx hf=>by unfold Ob.raw;rw [hf];simp only;rw [hx]
 unfold Ob.fO
 generalize aS o.size i=L at *
 refine st Tryz.func74 fun w0 => ?_
 refine gs ?_
 refine gc dr ?_
 rintro _ _ ⟨rfl,rfl⟩
 refine gm ?_;intro g
 rcases hF.look i with ⟨tt,jj, -⟩ | ⟨v,b,V1,D,V2,tt,jj,rfl,hD, -, -⟩
 ·by_cases bm:i<o.ay.length
  ·obtain ⟨x,hx⟩:∃x,o.ay[i]? = some x:=⟨_,List.getElem?_eq_getElem bm⟩
   have hr:=hrl x hx jj
   have hs:=ar Pt.aj o.ay i _ hx
   obtain ⟨gP,oP,rfl⟩:=W3.addr oZ
   by_cases hz:x=ah
   ·rw [if_pos hz] at hr
    rw [hr]
    subst hz
    refine gy ?_
    refine gz ?_
    exact fin ⟨g,rfl,rfl⟩ aa
   ·rw [if_neg hz] at hr
    have PH:=hl x hx hz
    have pc:=PG T fr p qs t pool tp pr n ls no V hV ok R C hC ho hall bZ x (dw x) PH
    rw [hr] at zV
    rw [hr]
    have Kq:=PH.bd
    refine gi ?_ ?_ <;> intro eL
    ·refine gd [0,4,8,12,16,20,24,28,32,36,40,47,50,54,58,62,66] ?_
     refine gc pc ?_
     rintro _ _ ⟨Se,O,rfl,hO,rfl⟩
     refine gy ?_
     refine gz ?_
     exact fin ⟨g,rfl,rfl⟩ aa
    ·exact absurd ((Pt.ext_iff x ah).2 (by simpa [ah] using eL)) hz
  ·have hr:o.raw dw i=[]:=by unfold Ob.raw;rw [jj];simp only;rw [List.getElem?_eq_none oZ]
   rw [hr]
   refine gy ?_
   refine gz ?_
   exact fin ⟨g,rfl,rfl⟩ aa
 ·have hr:o.raw dw i=b:=by unfold Ob.raw;rw [jj]
  have hbb:=pg _ (aI jj)
  rw [hr] at zV
  rw [hr]
  obtain ⟨gh,cb,rfl⟩:=hD.slice
  have jw:=hD.rd
  refine gs ?_
  refine gy ?_
  refine gz ?_
  exact fin ⟨g,rfl,rfl⟩ aa
end
end Go.Proofs.YteldablklnfblaaGreatDoor
namespace Go.Sl
structure au where
 no:Nat
 b:List UInt8
 born:Nat->Nat
 gE:Nat->Bool
 v:Value
def lR (f:Nat->Nat):List Value:=(List.range 64).map fun k=>.int .u64 (f k)
def xG (f:Nat->Bool):List Value:=(List.range 64).map fun k=>.bool (f k)
def au.lay (o:au):List Value:=.int .i64 o.no :: o.v :: (lR o.born++xG o.gE)
def upd {α:Type}(f:Nat->α)(k:Nat)(x:α)(j:Nat):α:=if j=k then x else f j
theorem kS (f:Nat->Nat):(lR f).length=64:=by simp [lR]
theorem PI (f:Nat->Bool):(xG f).length=64:=by simp [xG]
theorem au.aj (o:au):o.lay.length=130:=by simp [au.lay,kS,PI]
theorem wj {α:Type}(g:α->Value)(f:Nat->α){k n:Nat}(x:α):((List.range n).map fun k=>g (f k)).set k (g x)=(List.range n).map fun j=>g (upd f k x j):=by
 apply List.ext_getElem (by simp)
 intro i h1 h2
 rw [List.getElem_set]
 simp only [List.getElem_map,List.getElem_range,upd]
 by_cases c:k=i
 ·subst c;simp
 ·rw [if_neg c,if_neg (fun h=>c h.symm)]
theorem K1 (f:Nat->Nat)(k x:Nat):(lR f).set k (.int .u64 x)=lR (upd f k x):=wj (fun x:Nat=>Value.int .u64 x) f x
theorem PJ (f:Nat->Bool)(k:Nat)(x:Bool):(xG f).set k (.bool x)=xG (upd f k x):=wj Value.bool f x
theorem au.PK (o:au){k:Nat}(hk:k<64):o.lay[2+k]? = some (.int .u64 (o.born k)):=by
 have e:o.lay=[.int .i64 o.no,o.v]++(lR o.born++xG o.gE):=rfl
 rw [e,List.getElem?_append_right (by simp),List.getElem?_append_left (by rw [kS];simp;omega)]
 simp [lR,hk]
theorem au.I1 (o:au){k:Nat}(hk:k<64):o.lay[66+k]? = some (.bool (o.gE k)):=by
 have e:o.lay=([.int .i64 o.no,o.v]++lR o.born)++xG o.gE:=rfl
 have h:([Value.int .i64 o.no,o.v]++lR o.born).length=66:=by simp [kS]
 rw [e,List.getElem?_append_right oZ,h]
 simp [xG,hk]
theorem au.wk (o:au){k:Nat}(hk:k<64)(x:Nat):o.lay.set (2+k) (.int .u64 x)=({ o with born:=upd o.born k x }:au).lay:=by
 have e:o.lay=[.int .i64 o.no,o.v]++(lR o.born++xG o.gE):=rfl
 rw [e,List.set_append_right _ _ (by simp),show 2+k - [Value.int .i64 o.no,o.v].length=k by simp,List.set_append_left _ _ (by rw [kS];exact hk),K1];rfl
theorem au.tN (o:au){k:Nat}(_:k<64)(x:Bool):o.lay.set (66+k) (.bool x)=({ o with gE:=upd o.gE k x }:au).lay:=by
 have e:o.lay=([.int .i64 o.no,o.v]++lR o.born)++xG o.gE:=rfl
 have h:([Value.int .i64 o.no,o.v]++lR o.born).length=66:=by simp [kS]
 rw [e,List.set_append_right _ _ oZ,h,show 66+k - 66=k by omega,PJ];rfl
theorem au.bC (o:au)(h:o.v.oneCell'=true):∀u∈o.lay,u.oneCell'=true:=fun u hu=>by
 simp only [au.lay,List.mem_cons,List.mem_append] at hu
 rcases hu with rfl | rfl | hu | hu
 ·rfl
 ·exact h
 ·obtain ⟨x, -,rfl⟩:=List.mem_map.1 hu;rfl
 ·obtain ⟨x, -,rfl⟩:=List.mem_map.1 hu;rfl
theorem au.PL (o:au):o.lay[0]? = some (.int .i64 o.no):=rfl
theorem au.rM (o:au):o.lay[1]? = some o.v:=rfl
theorem au.ael (o:au)(k:Nat):o.lay.set 0 (.int .i64 k)=({ o with no:=k }:au).lay:=rfl
theorem au.Ul (o:au)(v:Value):o.lay.set 1 v=({ o with v:=v }:au).lay:=rfl
attribute [irreducible] au.lay
def ey (l:List au)(k:Int):Option au:=l.find? fun o=>(o.no:Int)==k
def aT (l:List au):Nat:=(l.map fun o=>cost o.b.length).sum
def iC (l:List au)(k:Int):Nat:=match ey l k with
 | some o=>cost o.b.length
 | none=>0
def cA (l:List au)(k:Int)(size room:Nat):Bool:=decide (aT l+cost size - iC l k<=room)
def dF (o:au):Bool->List au->List au
 | d,[]=>if d then [] else [o]
 | d,x :: r=>(if d=false/\o.no<=x.no then [o] else [])++((if x.no=o.no then [] else [x])++dF o (d||decide (o.no<=x.no)) r)
theorem fh {l:List au}{k:Int}{o:au}(h:ey l k=some o):o∈l/\(o.no:Int)=k:=by
 unfold ey at h
 exact ⟨List.mem_of_find?_eq_some h,by simpa using List.find?_some h⟩
theorem PN (l:List au)(k:Int):iC l k<=aT l:=by
 unfold iC
 cases h:ey l k with
 | none=>simp
 | some o =>
  have hm:=(fh h).1
  unfold aT
  have:∀(l:List au),o∈l->cost o.b.length<=(l.map fun o=>cost o.b.length).sum:=by
   intro l
   induction l with
   | nil=>intro h;cases h
   | cons x r ih =>
    intro h
    rw [List.map_cons,List.sum_cons]
    rcases List.mem_cons.1 h with rfl | h
    ·omega
    ·have:=ih h;omega
  exact this l hm
structure mO (l:List au):Prop where
 jY:l.length<=112
 sm:∀o∈l,o.b.length<=65536
 no:∀o∈l,o.no<=112
theorem Eb {l:List au}(h:mO l):aT l<=7728:=by
 have:∀l:List au,(∀o∈l,o.b.length<=65536)->aT l<=69*l.length:=by
  intro l
  induction l with
  | nil=>intro _;simp [aT]
  | cons o r ih =>
   intro h
   have h1:=lC (h o (List.mem_cons_self ..))
   have h2:=ih fun x hx=>h x (List.mem_cons_of_mem _ hx)
   simp only [aT,List.map_cons,List.sum_cons,List.length_cons] at *
   omega
 have h1:=this l h.sm
 have:=h.jY
 omega
theorem PO {l:List au}{i:Nat}{k:Int}(hi:i<l.length)(h:∀o∈l.take i,(o.no:Int)≠k)(hk:(l[i].no:Int)≠k):∀o∈l.take (i+1),(o.no:Int)≠k:=fun o ho=>by
 rw [aG l hi] at ho
 rcases List.mem_append.1 ho with ho | ho
 ·exact h o ho
 ·rw [List.mem_singleton.1 ho];exact hk
theorem Zu {l:List au}{i:Nat}{k:Int}(hi:i<l.length)(h:∀o∈l.take i,(o.no:Int)≠k)(hk:(l[i].no:Int)=k):ey l k=some l[i]:=by
 have e:ey l k=(l.take i++l.drop i).find? fun o=>(o.no:Int)==k:=by rw [List.take_append_drop];rfl
 rw [e,List.find?_append,List.find?_eq_none.2 fun o ho=>by simpa using h o ho,List.drop_eq_getElem_cons hi,List.find?_cons_of_pos (by simpa using hk)]
 rfl
theorem Ec {l:List au}{k:Int}(h:∀o∈l,(o.no:Int)≠k):ey l k=none:=by
 unfold ey
 exact List.find?_eq_none.2 fun o ho=>by simpa using h o ho
theorem G3 {l:List au}{i:Nat}(hi:i<l.length):aT (l.take (i+1))=aT (l.take i)+cost l[i].b.length:=by
 unfold aT
 rw [aG l hi,List.map_append,List.sum_append]
 simp
theorem xH (l:List au)(i:Nat):aT (l.take i)<=aT l:=by
 conv=>rhs;rw [<-List.take_append_drop i l]
 unfold aT
 rw [List.map_append,List.sum_append]
 omega
end Go.Sl
namespace Go.Proofs.YteldablklnfblaaGreatDoor
open Go.Sl
set_option maxRecDepth 10000
set_option maxHeartbeats 4000000
abbrev eM (v:Value)(txg note room:Nat)(vG vS:Value):Obj:=ax [v,.int .u64 txg,.int .u64 note,.int .i64 room,vG,vS] 66
def Ed (O:Chunk)(l:List au):Prop:=∀o∈l,(∃ad c,o.v = .slice ad o.b.length c/\o.b.length<=c)/\Rd O 1 o.v o.b.length (ak o.b)
theorem cB (k:Int):Ct 107 [.int .i64 k] [] fun u Bs=>u = .bool (decide (1<=k/\k<=112))/\Bs=[]:=by
 refine st Tryz.func107 fun w0 => ?_
 refine gg ?_ ?_ <;> intro h1
 ·refine gz ?_
  exact fin ⟨congrArg _ (decide_eq_decide.2 oZ),rfl⟩ aa
 ·refine gz ?_
  exact fin ⟨congrArg _ (decide_eq_false oZ).symm,rfl⟩ aa
theorem wm (n:Nat)(hn:n<=100000):Ct 159 [.int .i64 n] [] fun u Bs=>u = .int .i64 (cost n)/\Bs=[]:=by
 refine st Tryz.func159 fun w0 => ?_
 refine gi ?_ ?_ <;> intro h
 ·obtain rfl:n=0:=by omega
  refine gz ?_
  exact fin ⟨rfl,rfl⟩ aa
 ·have h1:(n - 1) / 1024<=100000:=Nat.le_trans (Nat.div_le_self _ _) oZ
  have h2:((n - 1) / 1024+1 - 1) / 16<=100000:=Nat.le_trans (Nat.div_le_self _ _) oZ
  refine gz ?_
  exact fin ⟨by unfold cost;rw [if_neg oZ];congr 2,rfl⟩ aa
section
variable (a:Nat)(l:List au)(aQ:mO l)(txg note room:Nat)(vG vS:Value)(ad:Option Addr)(c:Nat)(D O:Chunk)(hD:Rd D 130 (.slice ad l.length c) l.length (l.flatMap au.lay))
include aQ hD
theorem qf (k:Int):Ct 108 [ptr a,.int .i64 k] [[(a,eM (.slice ad l.length c) txg note room vG vS)],D] fun u Bs=>((u = .int .i64 (-1)/\ey l k=none)\/∃i o,u = .int .i64 (i:Nat)/\l[i]? = some o/\ey l k=some o)/\Bs=[[(a,eM (.slice ad l.length c) txg note room vG vS)],D]:=by
 have nP:=aQ.jY
 refine st Tryz.func108 fun w0 => ?_
 refine gl [0,1] (fun i:Nat=>[(5,.int .i64 i)]) (fun _=>[]) (fun i=>i<=l.length/\∀o∈l.take i,(o.no:Int)≠k) (fun i=>l.length - i) 0 ⟨by omega,by simp⟩ ?_
 rintro i ⟨hi,eD⟩
 refine gi ?_ ?_ <;> intro bo
 ·have bm:i<l.length:=by omega
  obtain ⟨g,off,rfl⟩:=hD.addr oZ
  have hs:=ar au.aj l i l[i] (by simp)
  have xp:=hs 0 _ (au.PL _)
  refine gi ?_ ?_ <;> intro he
  ·have he:(l[i].no:Int)=k:=by simpa using he
   refine gz ?_
   exact fin ⟨.inr ⟨i,l[i],rfl,by simp,Zu bm eD he⟩,rfl⟩ aa
  ·have he:(l[i].no:Int)≠k:=by simpa using he
   refine gn ?_
   exact ⟨i+1,⟨by omega,PO bm eD he⟩,by omega,aq,_,aa⟩
 ·obtain rfl:i=l.length:=by omega
  rw [List.take_length] at eD
  refine gz ?_
  exact fin ⟨.inl ⟨rfl,Ec eD⟩,rfl⟩ aa
variable (hO:Ed O l)
include hO
theorem Um:Ct 158 [ptr a] [[(a,eM (.slice ad l.length c) txg note room vG vS)],D] fun u Bs=>u = .int .i64 (aT l)/\Bs=[[(a,eM (.slice ad l.length c) txg note room vG vS)],D]:=by
 have nP:=aQ.jY
 have zy:=Eb aQ
 refine st Tryz.func158 fun w0 => ?_
 refine gl [0] (fun i:Nat=>[(4,.int .i64 i),(3,.int .i64 (aT (l.take i)))]) (fun _=>[]) (fun i=>i<=l.length) (fun i=>l.length - i) 0 oZ ?_
 intro i hi
 refine gi ?_ ?_ <;> intro bo
 ·have bm:i<l.length:=by omega
  obtain ⟨g,off,rfl⟩:=hD.addr oZ
  have hs:=ar au.aj l i l[i] (by simp)
  obtain ⟨⟨j8,cv,hv, -⟩, -⟩:=hO l[i] (List.getElem_mem bm)
  have xu:=hs 1 _ (show l[i].lay[1]? = some (.slice j8 l[i].b.length cv) by rw [<-hv];exact au.rM _)
  have Bm:=aQ.sm l[i] (List.getElem_mem bm)
  have hc:=lC Bm
  have ht:=G3 bm
  have hb:=xH l i
  refine gc (wm l[i].b.length oZ) ?_
  rintro _ _ ⟨rfl,rfl⟩
  refine go ?_
  rw [<-ht]
  refine gn ?_
  exact ⟨i+1,by omega,by omega,aq,_,aa⟩
 ·obtain rfl:i=l.length:=by omega
  rw [List.take_length]
  refine gz ?_
  exact fin ⟨rfl,rfl⟩ aa
theorem AA (k:Int)(size:Nat)(bu:size<=65536)(eQ:room<=100000):Ct 109 [ptr a,.int .i64 k,.int .i64 size] [[(a,eM (.slice ad l.length c) txg note room vG vS)],D] fun u Bs=>u = .bool (cA l k size room)/\Bs=[[(a,eM (.slice ad l.length c) txg note room vG vS)],D]:=by
 have Sd:=Um a l aQ txg note room vG vS ad c D O hD hO
 have gA:=qf a l aQ txg note room vG vS ad c D hD k
 have zy:=Eb aQ
 have qO:=PN l k
 have MT:=lC bu
 refine st Tryz.func109 fun w0 => ?_
 refine gc Sd ?_
 rintro _ _ ⟨rfl,rfl⟩
 refine gc (wm size oZ) ?_
 rintro _ _ ⟨rfl,rfl⟩
 refine gc gA ?_
 rintro _ _ ⟨⟨rfl,hn⟩ | ⟨i,o,rfl,hi,hn⟩,rfl⟩
 ·have e:iC l k=0:=by unfold iC;rw [hn]
  refine gz ?_
  exact fin ⟨by unfold cA;rw [e];exact congrArg _ (decide_eq_decide.2 oZ),rfl⟩ aa
 ·have bm:=(List.getElem?_eq_some_iff.1 hi).1
  have qR:=List.mem_of_getElem? hi
  have e:iC l k=cost o.b.length:=by unfold iC;rw [hn]
  have Bm:=aQ.sm o qR
  have nP:=aQ.jY
  obtain ⟨g,off,rfl⟩:=hD.addr oZ
  have hs:=ar au.aj l i o hi
  obtain ⟨⟨j8,cv,hv, -⟩, -⟩:=hO o qR
  have xu:=hs 1 _ (show o.lay[1]? = some (.slice j8 o.b.length cv) by rw [<-hv];exact au.rM _)
  refine gc (wm o.b.length oZ) ?_
  rintro _ _ ⟨rfl,rfl⟩
  have hw:IntKind.i64.wrap (((aT l+cost size:Nat):Int) - ((cost o.b.length:Nat):Int))=((aT l+cost size - cost o.b.length:Nat):Int):=by rw [IntWalk.i64_in _ oZ];omega
  refine gz ?_
  exact fin ⟨by unfold cA;rw [e];exact congrArg _ (decide_eq_decide.2 oZ),rfl⟩ aa
end
end Go.Proofs.YteldablklnfblaaGreatDoor
namespace Go.Sl
def eI (all:List (Int×Ob)):Nat:=(all.map fun e=>cost e.2.size).sum
def fX (all:List (Int×Ob))(q:Int):Nat:=match aH all q with
 | some o=>cost o.size
 | none=>0
def og (all:List (Int×Ob))(k:Int)(size room:Nat):Bool:=decide (eI all+cost size - fX all k<=room)
theorem yD:∀ {all:List (Int×Ob)},(all.map (·.1)).Nodup->eI all=((all.map (·.1)).map (fX all)).sum:=by
 intro all hn
 unfold eI
 rw [List.map_map]
 congr 1
 apply List.map_congr_left
 intro e he
 simp only [Function.comp,fX,eW hn he]
theorem K3 {all:List (Int×Ob)}(q:Int):fX all q<=eI all:=by
 unfold fX
 cases h:aH all q with
 | none=>simp
 | some o =>
  obtain ⟨X,Y,e⟩:=List.append_of_mem (aI h)
  simp only [eI,e,List.map_append,List.map_cons,List.sum_append,List.sum_cons];omega
theorem AB:∀ {all:List (Int×Ob)},(∀e∈all,e.2.size<=65536)->eI all<=69*all.length
 | [],_=>by simp [eI]
 | e :: r,h=>by
  have h1:=lC (h e (List.mem_cons_self ..))
  have h2:=AB (all:=r) fun x hx=>h x (List.mem_cons_of_mem _ hx)
  simp only [eI,List.map_cons,List.sum_cons,List.length_cons] at *;omega
end Go.Sl
namespace Go.Proofs.YteldablklnfblaaGreatDoor
open Go.Sl
set_option maxRecDepth 10000
set_option maxHeartbeats 4000000
section
variable (s t pool:Nat)(tp:Tp)(pr:Bool)(n:Nat)(ls:List (Option Lv))(no:Nat)(V:Chunk)(hV:jb t pool tp pr n ls no V)(ok:dK tp pr n ls.length)(dE:n<=2048)(vA:Value)(ra rd txg note:Nat)
variable (LA:List (Int×Value))(CA:Chunk)(hA:Mp ra .i64 LA CA)(all:List (Int×Ob))(VA:Chunk)(hG:eS wi LA all VA)(bu:∀e∈all,e.2.size<=65536)(hlen:all.length<=112)
include hA hG bu hlen
theorem Zv:Ct 155 [ptr s] [[(s,bR t vA ra rd txg note)],CA,VA] fun u Bs=>u = .int .i64 (eI all)/\Bs=[[(s,bR t vA ra rd txg note)],CA,VA]:=by
 have hk:=hG.keys
 have ek:=hA.nodup
 have aem:(all.map (·.1)).Nodup:=by rw [hk];exact ek
 have Sd:=yD aem
 rw [hk] at Sd
 have zy:=AB bu
 refine st Tryz.func155 fun w0 => ?_
 refine gr ?_
 intro it DI hI
 refine gl [10] (fun ((acc,_):Nat×List (Int×Value)×Chunk)=>[(3,.int .i64 acc)]) (fun (_,_,DI)=>[CA,DI,VA]) (fun (acc,rest,DI)=>yf ra it .i64 LA rest CA DI/\acc+((rest.map (·.1)).map (fX all)).sum=eI all) (fun (_,rest,_)=>rest.length) (0,LA,DI) ⟨hI,by rw [Sd];simp⟩ ?_
 clear hI
 rintro ⟨acc,rest,DI⟩ ⟨hI,hs⟩
 refine NM ?_ ?_
 ·rintro rfl
  refine gz ?_
  have:acc=eI all:=by simpa using hs
  subst this
  exact fin ⟨rfl,rfl⟩ aa
 ·rintro X q v Y GR rfl gN qL hE
  rcases hG.look q with ⟨h1, -⟩ | ⟨v',o,V1,D,V2,h1,h2,rfl,⟨a,rfl,hO⟩, -, -⟩
  ·rw [gN] at h1;cases h1
  ·obtain rfl:v=ptr a:=by rw [gN] at h1;exact Option.some.inj h1
   have ho:o.size<=65536:=bu _ (aI h2)
   have hca:fX all q=cost o.size:=by unfold fX;rw [h2]
   obtain ⟨jl,cP,DP,dQ,cI,xI,r,LF,CF,VF,hP,IV,hM,hF,rfl⟩:=hO
   simp only [List.map_append,List.map_cons,List.sum_append,List.sum_cons,hca] at hs
   refine NN ?_
   refine gs ?_
   refine gc (Gn o.size oZ) ?_
   rintro _ _ ⟨rfl,rfl⟩
   refine gn ?_
   exact ⟨(acc+cost o.size,X++Y,GR),⟨qL,by simp only [List.map_append,List.sum_append];omega⟩,by simp only [List.length_append,List.length_cons];omega,aq,_,aa⟩
include hV ok dE in
theorem rN (k:Int)(size:Nat)(wo:size<=65536):Ct 106 [ptr s,.int .i64 k,.int .i64 size] [[(s,bR t vA ra rd txg note)],V,CA,VA] fun u Bs=>u = .bool (og all k size (bD pr ls.length n / aN pr ls.length 1024 / 4 - 10))/\Bs=[[(s,bR t vA ra rd txg note)],V,CA,VA]:=by
 have Sd:=Zv s t vA ra rd txg note LA CA hA all VA hG bu hlen
 have R8:=Zt s t pool tp pr n ls no V hV ok dE vA ra rd txg note
 have zy:=AB bu
 have qO:=lC wo
 have MT:=Gn size oZ
 have hca:=K3 (all:=all) k
 unfold og
 generalize bD pr ls.length n / aN pr ls.length 1024 / 4 - 10=room at *
 rcases hG.look k with ⟨h1,h2, -⟩ | ⟨v',o,V1,D,V2,h1,h2,rfl,⟨a,rfl,hO⟩, -, -⟩
 ·have Un:fX all k=0:=by unfold fX;rw [h2]
  rw [Un]
  refine st Tryz.func106 fun w0 => ?_
  refine gc Sd ?_
  rintro _ _ ⟨rfl,rfl⟩
  refine gc MT ?_
  rintro _ _ ⟨rfl,rfl⟩
  refine gc R8 ?_
  rintro _ _ ⟨rfl,rfl⟩
  refine gz ?_
  exact fin ⟨congrArg _ (decide_eq_decide.2 oZ),rfl⟩ aa
 ·have ho:o.size<=65536:=bu _ (aI h2)
  have hc1:fX all k=cost o.size:=by unfold fX;rw [h2]
  rw [hc1] at hca ⊢
  have hco:=Gn o.size oZ
  obtain ⟨jl,cP,DP,dQ,cI,xI,r,LF,CF,VF,hP,IV,hM,hF,rfl⟩:=hO
  refine st Tryz.func106 fun w0 => ?_
  refine gs ?_
  refine gc Sd ?_
  rintro _ _ ⟨rfl,rfl⟩
  refine gs ?_
  refine gc MT ?_
  rintro _ _ ⟨rfl,rfl⟩
  refine gc hco ?_
  rintro _ _ ⟨rfl,rfl⟩
  refine gc R8 ?_
  rintro _ _ ⟨rfl,rfl⟩
  refine gz ?_
  exact fin ⟨congrArg _ (decide_eq_decide.2 oZ),rfl⟩ aa
end
end Go.Proofs.YteldablklnfblaaGreatDoor
namespace Go.Sl
def du (all:List (Int×Ob))(k:Int):Int×Int:=if 1<=k/\k<=112 then (match aH all k with
 | some o=>((o.size:Int),0)
 | none=>(0,130)) else (0,1)
theorem dS {all:List (Int×Ob)}{k:Int}(h:¬(1<=k/\k<=112)):du all k=(0,1):=if_neg h
theorem fe {all:List (Int×Ob)}{k:Int}(h:1<=k/\k<=112)(h2:aH all k=none):du all k=(0,130):=by unfold du;rw [if_pos h,h2]
theorem eN {all:List (Int×Ob)}{k:Int}{o:Ob}(h:1<=k/\k<=112)(h2:aH all k=some o):du all k=((o.size:Int),0):=by unfold du;rw [if_pos h,h2]
end Go.Sl
namespace Go.Proofs.YteldablklnfblaaGreatDoor
open Go.Sl
set_option maxRecDepth 10000
set_option maxHeartbeats 4000000
section
variable (s tk:Nat)(vA:Value)(ra rd txg note:Nat)
theorem Zw:Ct 23 [ptr s] [[(s,bR tk vA ra rd txg note)]] fun u Bs=>u = .int .u64 txg/\Bs=[[(s,bR tk vA ra rd txg note)]]:=by
 refine st Tryz.func23 fun w0 => ?_
 refine gz ?_
 exact fin ⟨rfl,rfl⟩ aa
theorem Uo:Ct 24 [ptr s] [[(s,bR tk vA ra rd txg note)]] fun u Bs=>u = .int .u64 note/\Bs=[[(s,bR tk vA ra rd txg note)]]:=by
 refine st Tryz.func24 fun w0 => ?_
 refine gz ?_
 exact fin ⟨rfl,rfl⟩ aa
variable (LA:List (Int×Value))(CA:Chunk)(hA:Mp ra .i64 LA CA)
include hA
theorem yE (hl:LA.length<=112):Ct 22 [ptr s] [[(s,bR tk vA ra rd txg note)],CA] fun u Bs=>∃ks ad c D,ks.Perm (LA.map (·.1))/\ks.Pairwise (· <= ·)/\u = .slice ad LA.length c/\az D 3 1 u LA.length (ints ks)/\Bs=[D,[(s,bR tk vA ra rd txg note)],CA]:=by
 refine st Tryz.func22 fun w0 => ?_
 refine gr ?_
 intro it DI hI
 refine gl [9] (fun ((v3,_):Value×List Int×List (Int×Value)×Chunk×Chunk)=>[(3,v3)]) (fun (_,_,_,D,DI)=>[CA,D,DI]) (fun (v3,ks,rest,D,DI)=>(∃ad c,v3 = .slice ad ks.length c)/\az D 3 1 v3 ks.length (ints ks)/\yf ra it .i64 LA rest CA DI/\(ks++rest.map (·.1)).Perm (LA.map (·.1))) (fun (_,_,rest,_)=>rest.length) (.slice none 0 0,[],LA,[],DI) ⟨⟨none,0,rfl⟩,az.nil _ _,hI,List.Perm.refl _⟩ ?_
 clear hI
 rintro ⟨v3,ks,rest,D,DI⟩ ⟨⟨ad,c,rfl⟩,hD,hI,hp⟩
 have mw:=hp.length_eq
 rw [List.length_append,List.length_map,List.length_map] at mw
 refine NM ?_ ?_
 ·rintro rfl
  rw [List.map_nil,List.append_nil] at hp
  simp only [List.length_nil,Nat.add_zero] at mw
  refine gc (Ij ks _ rfl oZ D ad c hD) ?_
  rintro _ _ ⟨D',eo,rfl⟩
  refine gz ?_
  rw [<-mw]
  exact fin ⟨zC ks,ad,c,D',(rj ks).trans hp,sA ks,rfl,eo,rfl⟩ aa
 ·rintro X q v Y GR rfl gN qL hE
  simp only [List.length_append,List.length_cons] at mw
  refine NN ?_
  refine gm ?_;intro b16
  refine gp ?_;intro ad2 c2 D2 Ci
  refine gn ?_
  refine ⟨(_,ks++[q],X++Y,D2,GR),⟨⟨ad2,c2,by rw [List.length_append]⟩,by simpa [ints] using Ci,qL, ?_⟩,by simp only [List.length_append,List.length_cons];omega,aq,_,aa⟩
  refine List.Perm.trans ?_ hp
  simp only [List.map_append,List.map_cons,List.append_assoc]
  exact List.Perm.append_left _ (show (q :: (X.map (·.1)++Y.map (·.1))).Perm (X.map (·.1)++q :: Y.map (·.1)) from List.perm_middle.symm)
variable (all:List (Int×Ob))(VA:Chunk)(hG:eS wi LA all VA)
include hG
theorem I2 (k:Int):Ct 25 [ptr s,.int .i64 k] [[(s,bR tk vA ra rd txg note)],CA,VA] fun u Bs=>u = .tuple #[.int .i64 (du all k).1,.int .i64 (du all k).2]/\Bs=[[(s,bR tk vA ra rd txg note)],CA,VA]:=by
 by_cases hk:1<=k/\k<=112
 ·rcases hG.look k with ⟨h1,h2, -⟩ | ⟨v',o,V1,D,V2,h1,h2,rfl,⟨a,rfl,hO⟩, -, -⟩
  ·rw [fe hk h2]
   refine st Tryz.func25 fun w0 => ?_
   refine gc (nA s tk vA ra rd txg note LA CA hA k hk h1) ?_
   rintro _ _ ⟨rfl,rfl⟩
   refine gz ?_
   exact fin ⟨rfl,rfl⟩ aa
  ·rw [eN hk h2]
   obtain ⟨jl,cP,DP,dQ,cI,xI,r,LF,CF,VF,hP,IV,hM,hF,rfl⟩:=hO
   refine st Tryz.func25 fun w0 => ?_
   refine gs ?_
   refine gc (lJ s tk vA ra rd txg note LA CA hA k hk a h1) ?_
   rintro _ _ ⟨rfl,rfl⟩
   refine gz ?_
   exact fin ⟨rfl,rfl⟩ aa
 ·rw [dS hk]
  refine st Tryz.func25 fun w0 => ?_
  refine gc (kR s tk vA ra rd txg note k hk) ?_
  rintro _ _ ⟨rfl,rfl⟩
  refine gz ?_
  exact fin ⟨rfl,rfl⟩ aa
theorem Up (k:Int):Ct 48 [ptr s,.int .i64 k] [[(s,bR tk vA ra rd txg note)],CA,VA] fun u Bs=>u = .int .i64 (du all k).2/\∃L' C' V',Mp ra .i64 L' C'/\eS wi L' (if (du all k).2=0 then oN all k else all) V'/\Bs=[[(s,bR tk vA ra rd txg note)],C',V']:=by
 by_cases hk:1<=k/\k<=112
 ·rcases hG.look k with ⟨h1,h2, -⟩ | ⟨v',o,V1,D,V2,h1,h2, -⟩
  ·rw [fe hk h2]
   refine st Tryz.func48 fun w0 => ?_
   refine gc (nA s tk vA ra rd txg note LA CA hA k hk h1) ?_
   rintro _ _ ⟨rfl,rfl⟩
   refine gz ?_
   exact fin ⟨rfl,LA,CA,VA,hA,hG,rfl⟩ aa
  ·rw [eN hk h2]
   obtain ⟨o',V1',D',V2',h3,rfl,hD,PQ⟩:=hG.cut hA.nodup h1
   obtain ⟨a,rfl,hO⟩:=hD
   have afZ:(jU LA k).isSome=true:=by rw [h1];rfl
   refine st Tryz.func48 fun w0 => ?_
   refine gs ?_
   refine gc (lJ s tk vA ra rd txg note LA CA hA k hk a h1) ?_
   rintro _ _ ⟨rfl,rfl⟩
   refine gx ?_
   intro C' bA
   refine gz ?_
   exact fin ⟨rfl,_,C',_,bA,PQ,rfl⟩ aa
 ·rw [dS hk]
  refine st Tryz.func48 fun w0 => ?_
  refine gc (kR s tk vA ra rd txg note k hk) ?_
  rintro _ _ ⟨rfl,rfl⟩
  refine gz ?_
  exact fin ⟨rfl,LA,CA,VA,hA,hG,rfl⟩ aa
end
section
variable (a:Nat)(l:List au)(aQ:mO l)(txg note room:Nat)(vG vS:Value)(ad:Option Addr)(c:Nat)(D:Chunk)(hD:Rd D 130 (.slice ad l.length c) l.length (l.flatMap au.lay))
include aQ hD
theorem Uq (ks:List Int)(FC:ks=l.map fun o=>(o.no:Int))(E:Chunk)(RY:Option Addr)(c0:Nat)(hE:az E 3 1 (.slice RY l.length c0) l.length (ints ks)):Ct 21 [.slice RY l.length c0,ptr a] [E,[(a,eM (.slice ad l.length c) txg note room vG vS)],D] fun u Bs=>u = .bool true/\∃E',Bs=[E',[(a,eM (.slice ad l.length c) txg note room vG vS)],D]:=by
 have nP:=aQ.jY
 obtain ⟨h1,h2,⟨hv,h3,rfl⟩ | ⟨g,c1,r,hv,rfl,h3,h4,h5⟩⟩:=hE
 ·obtain rfl:=List.length_eq_zero_iff.1 h3
  cases hv
  refine st Tryz.func21 fun w0 => ?_
  refine gl [0,1] (fun i:Nat=>[(5,.int .i64 i)]) (fun _=>[]) (fun i=>i=0) (fun i=>0) 0 rfl ?_
  rintro i rfl
  refine gz ?_
  exact fin ⟨rfl,_,rfl⟩ aa
 ·cases hv
  refine st Tryz.func21 fun w0 => ?_
  refine gl [0,1] (fun ((i,_):Nat×List Value)=>[(5,.int .i64 i)]) (fun (i,pre)=>[[(g,ax (pre++((ints ks).drop i++r)) 3)]]) (fun (i,pre)=>i<=l.length/\pre.length=i) (fun (i,_)=>l.length - i) (0,[]) ⟨by omega,rfl⟩ ?_
  rintro ⟨i,pre⟩ ⟨hi,sU⟩
  refine gi ?_ ?_ <;> intro bo
  ·have bm:i<l.length:=by omega
   obtain ⟨gD,off,rfl⟩:=hD.addr oZ
   have hs:=ar au.aj l i l[i] (by simp)
   have xp:=hs 0 _ (au.PL _)
   have O5:(ints ks).drop i = .int .i64 (l[i].no:Int) :: (ints ks).drop (i+1):=by
    rw [List.drop_eq_getElem_cons oZ]
    congr 1
    subst FC
    simp [ints]
   rw [O5]
   have bV:(pre++(.int .i64 (l[i].no:Int) :: (ints ks).drop (i+1)++r))[i]? = some (.int .i64 (l[i].no:Int)):=by
    rw [List.getElem?_append_right oZ,sU,Nat.sub_self];rfl
   have fm:(pre++(.int .i64 (l[i].no:Int) :: (ints ks).drop (i+1)++r)).set i (.int .i64 (-1))=(pre++[.int .i64 (-1)])++((ints ks).drop (i+1)++r):=by
    rw [List.set_append_right _ _ oZ,sU,Nat.sub_self,List.append_assoc];rfl
   refine go ?_
   rw [fm]
   refine gn ?_
   exact ⟨(i+1,pre++[.int .i64 (-1)]),⟨by omega,by simp [sU]⟩,by simp only;omega,aq,_,aa⟩
  ·obtain rfl:i=l.length:=by omega
   refine gz ?_
   exact fin ⟨rfl,_,rfl⟩ aa
end
end Go.Proofs.YteldablklnfblaaGreatDoor
namespace Go.Sl
def Ob.byte (rd:Pt->List UInt8)(o:Ob)(j:Nat):UInt8:=((o.raw rd (j / 1024))[j % 1024]?).getD 0
def Ob.me (rd:Pt->List UInt8)(o:Ob)(a m:Nat):List UInt8:=(List.range' a m).map (o.byte rd)
section
variable (rd:Pt->List UInt8)(o:Ob)
theorem Ob.nB (a m:Nat):(o.me rd a m).length=m:=by simp [Ob.me]
theorem Ob.oQ (a m k:Nat):o.me rd a m++o.me rd (a+m) k=o.me rd a (m+k):=by
 unfold Ob.me
 rw [<-List.map_append,List.range'_append_1]
theorem Ob.PR (a m k:Nat):(o.me rd a m).drop k=o.me rd (a+k) (m - k):=by
 unfold Ob.me
 rw [<-List.map_drop,List.drop_range'];simp
theorem Ob.Ee (a m k:Nat):(o.me rd a m).take k=o.me rd a (min k m):=by
 rcases Nat.le_total k m with h | h
 ·rw [Nat.min_eq_left h,show m=k+(m - k) by omega,<-Ob.oQ]
  exact List.take_left' (Ob.nB ..)
 ·rw [Nat.min_eq_right h,List.take_of_length_le (by rw [Ob.nB];exact h)]
theorem Ob.nC (i:Nat):o.fO rd i=o.me rd (i*1024) (aS o.size i):=by
 unfold Ob.fO
 have hL:aS o.size i<=1024:=by unfold aS;omega
 generalize aS o.size i=L at *
 apply List.ext_getElem
 ·rw [dR,Ob.nB]
 ·intro k h1 h2
  rw [dR] at h1
  have e1:(i*1024+k) / 1024=i:=by omega
  have e2:(i*1024+k) % 1024=k:=by omega
  simp only [Ob.me,List.getElem_map,List.getElem_range',Nat.one_mul,Ob.byte,e1,e2,dH]
  by_cases c:k<(o.raw rd i).length
  ·rw [List.getElem_append_left (by simp;omega)]
   simp [List.getElem?_eq_getElem c]
  ·rw [List.getElem_append_right (by simp;omega)]
   rw [List.getElem?_eq_none oZ]
   simp
end
def dB (size:Nat)(at_ many:Nat):Nat:=min many (size - at_)
end Go.Sl
namespace Go.Proofs.YteldablklnfblaaGreatDoor
open Go.Sl
set_option maxRecDepth 10000
set_option maxHeartbeats 4000000
section
variable (T:TypeId)(fr:Nat×Nat)(p:Nat)(qs:List Nat)(t pool:Nat)(tp:Tp)(pr:Bool)(n:Nat)(ls:List (Option Lv))(no:Nat)(V:Chunk)(hV:jb t pool tp pr n ls no V)(ok:dK tp pr n ls.length)(R:Rk)(C:Chunk)(hC:bq p qs R C)(ho:dJ qs R n ls)(hall:∀x∈ls,x≠none)(bZ:R.off=false)
variable (s:Nat)(vA:Value)(ra rd txg note:Nat)(LA:List (Int×Value))(CA:Chunk)(hA:Mp ra .i64 LA CA)(all:List (Int×Ob))(VA:Chunk)(hG:eS wi LA all VA)
theorem K4 (k a m:Int)(h:a<0\/m<0):Ct 26 [ptr s,.int .i64 k,.int .i64 a,.int .i64 m] [[(s,bR t vA ra rd txg note)]] fun u Bs=>u = .tuple #[.slice none 0 0,.int .i64 1]/\Bs=[[(s,bR t vA ra rd txg note)]]:=by
 refine st Tryz.func26 fun w0 => ?_
 rcases (show a<0\/(¬a<0/\m<0) by omega) with h1 | ⟨h1,h2⟩
 ·refine gz ?_
  exact fin ⟨rfl,rfl⟩ aa
 ·refine gz ?_
  exact fin ⟨rfl,rfl⟩ aa
include hA hG
theorem PT (k:Int)(a m:Nat)(h:(du all k).2≠0):Ct 26 [ptr s,.int .i64 k,.int .i64 a,.int .i64 m] [[(s,bR t vA ra rd txg note)],CA,VA] fun u Bs=>u = .tuple #[.slice none 0 0,.int .i64 (du all k).2]/\Bs=[[(s,bR t vA ra rd txg note)],CA,VA]:=by
 by_cases hk:1<=k/\k<=112
 ·rcases hG.look k with ⟨h1,h2, -⟩ | ⟨v',o,V1,D,V2,h1,h2, -⟩
  ·rw [fe hk h2]
   refine st Tryz.func26 fun w0 => ?_
   refine gc (nA s t vA ra rd txg note LA CA hA k hk h1) ?_
   rintro _ _ ⟨rfl,rfl⟩
   refine gz ?_
   exact fin ⟨rfl,rfl⟩ aa
  ·rw [eN hk h2] at h;exact absurd rfl h
 ·rw [dS hk]
  refine st Tryz.func26 fun w0 => ?_
  refine gc (kR s t vA ra rd txg note k hk) ?_
  rintro _ _ ⟨rfl,rfl⟩
  refine gz ?_
  exact fin ⟨rfl,rfl⟩ aa
include hV ok hC ho hall bZ
theorem I3 (k:Int)(hk:1<=k/\k<=112)(a m:Nat)(K5:a<9223372036854775808/\m<9223372036854775808)(o:Ob)(hl:aH all k=some o)(bu:o.size<=65536)(dw:Pt->List UInt8)(PH:∀x∈o.ay,x≠ah->K0 R ls pr n x (dw x))(pg:∀e∈o.fresh,e.2.length<=1024) :
  Ct 26 [ptr s,.int .i64 k,.int .i64 a,.int .i64 m] [[(s,bR t vA ra rd txg note)],gK T fr,C,V,CA,VA] fun u Bs=>∃ad c D,u = .tuple #[.slice ad (dB o.size a m) c,.int .i64 0]/\az D 5 1 (.slice ad (dB o.size a m) c) (dB o.size a m) (ak (o.me dw a (dB o.size a m)))/\Bs=[D,[(s,bR t vA ra rd txg note)],gK T fr,C,V,CA,VA]:=by
 rcases hG.look k with ⟨-,h2, -⟩ | ⟨v',o',V1,D,V2,h1,h2,rfl,⟨ao,rfl,hO⟩, -, -⟩
 ·rw [hl] at h2;cases h2
 ·obtain rfl:o=o':=by rw [hl] at h2;exact Option.some.inj h2
  have ef:=fun i hi=>qd T fr p qs t pool tp pr n ls no V hV ok R C hC ho hall bZ s vA ra rd txg note ao o bu D hO i hi dw (fun x hx=>PH x (List.mem_of_getElem? hx)) pg
  obtain ⟨N,hN⟩:∃N,N=dB o.size a m:=⟨_,rfl⟩
  rw [<-hN]
  unfold dB at hN
  have Gf:(a:Int)<9223372036854775808/\(m:Int)<9223372036854775808:=by omega
  refine st Tryz.func26 fun w0 => ?_
  refine gs ?_
  refine gc (lJ s t vA ra rd txg note LA CA hA k hk ao h1) ?_
  rintro _ _ ⟨rfl,rfl⟩
  refine gl [0,10] (fun ((i,q,v12,_):Nat×Nat×Value×Chunk)=>[(13,.int .i64 i),(2,.int .i64 (a+q:Nat)),(3,.int .i64 (m - q:Nat)),(12,v12)]) (fun (_,_,_,E)=>[E,[(s,bR t vA ra rd txg note)],gK T fr,C,V,D]) (fun (i,q,v12,E)=>q<=N/\(q<N->i=(a+q) / 1024)/\i<=9007199254740992/\(∃ad c,v12 = .slice ad q c)/\az E 5 1 v12 q (ak (o.me dw a q))) (fun (_,q,_,_)=>N - q) (a / 1024,0,.slice none 0 0,[]) ⟨by omega,fun _=>rfl,by omega,⟨none,0,rfl⟩,az.nil _ _⟩ ?_
  rintro ⟨i,q,v12,E⟩ ⟨hq,hi,hib,⟨ad,c,rfl⟩,hE⟩
  by_cases Gv:q<N
  ·have jG:a+q<o.size/\0<m - q:=by omega
   have hii:=hi Gv
   have wq:i<=100:=by omega
   have K6:=ef i wq
   rw [Ob.nC] at K6
   obtain ⟨L,hL⟩:∃L,L=aS o.size i:=⟨_,rfl⟩
   rw [<-hL] at K6
   unfold aS at hL
   obtain ⟨d,hd⟩:∃d,d=a+q - i*1024:=⟨_,rfl⟩
   obtain ⟨e,he⟩:∃e,e=min (L - d) (m - q):=⟨_,rfl⟩
   have ou:((ak (o.me dw (i*1024) L)).drop (d*1)).take ((L - d)*1)=ak (o.me dw (a+q) (L - d)):=by
    rw [Nat.mul_one,Nat.mul_one,aY,aL,Ob.PR,Ob.Ee,show i*1024+d=a+q by omega,Nat.min_self]
   have YY:((ak (o.me dw (a+q) (L - d))).drop (0*1)).take ((e - 0)*1)=ak (o.me dw (a+q) e):=by
    rw [Nat.zero_mul,List.drop_zero,Nat.sub_zero,Nat.mul_one,aL,Ob.Ee,show min e (L - d)=e by omega]
   have Mq:L - d=L - d:=rfl
   have dE:e - 0=e:=rfl
   have iY:IntKind.i64.wrap (((a+q:Nat):Int) - ((i*1024:Nat):Int))=(d:Int):=by rw [IntWalk.i64_in _ oZ];omega
   obtain ⟨jl,cP,DP,dQ,cI,xI,r,LF,CF,VF,hP,IV,hM,hF,rfl⟩:=hO
   refine gs ?_
   refine gc K6 ?_
   rintro _ _ ⟨g,rfl,rfl⟩
   refine gs ?_
   have hRg:Rd [(g,ax (ak (o.me dw (i*1024) L)) 5)] 1 (.slice (some ⟨g,0,none⟩) L L) L (ak (o.me dw (i*1024) L)):=av (by rw [ai,Ob.nB,Nat.mul_one]) (aK _) oZ _
   refine gw ?_;intro ad2 kD
   clear hRg
   refine go ?_
   rw [show min ((L - d:Nat):Int) ((m - q:Nat):Int)=(e:Int) by omega]
   refine gw ?_;intro fL zK
   clear kD
   refine gp ?_;intro pN c4 E4 hE4
   have Zx:ak (o.me dw a q)++ak (o.me dw (a+q) e)=ak (o.me dw a (q+e)):=by rw [<-aE,Ob.oQ]
   rw [Zx] at hE4
   refine gn ?_
   exact ⟨(i+1,q+e,_,E4),⟨by omega,fun h=>by omega,by omega,⟨pN,c4,rfl⟩,hE4⟩,by simp only;omega,aq,_,aa⟩
  ·obtain rfl:q=N:=by omega
   obtain ⟨jl,cP,DP,dQ,cI,xI,r,LF,CF,VF,hP,IV,hM,hF,rfl⟩:=hO
   refine gs ?_
   by_cases bo:a+q<o.size
   ·refine gz ?_
    exact fin ⟨ad,c,E,rfl,hE,rfl⟩ aa
   ·refine gz ?_
    exact fin ⟨ad,c,E,rfl,hE,rfl⟩ aa
end
end Go.Proofs.YteldablklnfblaaGreatDoor
namespace Go.Sl
set_option maxRecDepth 10000
def mP (o:Ob)(txg i:Nat):Bool:=(match o.ay[i]? with
 | some x=>decide (txg<x.bh)
 | none=>false)||(aH o.fresh (i:Int)).isSome
def cn (o:Ob)(txg:Nat):List Bool:=(List.range 64).map (mP o txg)
theorem K7 (o:Ob)(txg:Nat):(cn o txg).length=64:=by simp [cn]
theorem PU {o:Ob}{txg i:Nat}(h:i<64):(cn o txg)[i]? = some (mP o txg i):=by simp [cn,h]
def bx (bs:List Bool)(i:Nat):List Pt:=(bs.take i).map qP++List.replicate (64 - i) ah
theorem PV {pre post:List Pt}{i:Nat}(h:pre.length=i):(aO (pre++ah :: post)).set (i*9+3) (.int .u64 1)=aO (pre++qP true :: post):=by
 subst h
 induction pre with
 | nil=>rfl
 | cons x r ih =>
  have e1:aO (x :: r++ah :: post)=x.lay++aO (r++ah :: post):=rfl
  have e2:aO (x :: r++qP true :: post)=x.lay++aO (r++qP true :: post):=rfl
  rw [e1,e2,<-ih,List.length_cons,List.set_append_right _ _ (by rw [Pt.aj];omega),Pt.aj]
  congr 2
  omega
theorem wu {bs:List Bool}{i:Nat}(hi:i<64):bx bs i=(bs.take i).map qP++ah :: List.replicate (64 - (i+1)) ah:=by
 unfold bx
 rw [show 64 - i=(64 - (i+1))+1 by omega,List.replicate_succ]
theorem yF {bs:List Bool}(hb:bs.length=64){i:Nat}(hi:i<64)(h:bs[i]? = some true):(aO (bx bs i)).set (i*9+3) (.int .u64 1)=aO (bx bs (i+1)):=by
 rw [wu hi,PV (by rw [List.length_map,List.length_take,hb];omega)]
 unfold bx
 rw [List.take_add_one,h]
 simp
theorem Ef {bs:List Bool}(hb:bs.length=64){i:Nat}(hi:i<64)(h:bs[i]? = some false):bx bs (i+1)=bx bs i:=by
 rw [wu hi]
 unfold bx
 rw [List.take_add_one,h]
 simp [qP,ah]
theorem nD {bs:List Bool}(hb:bs.length=64){i:Nat}(hi:i<=64):(aO (bx bs i)).length=576:=by
 have:∀l:List Pt,(aO l).length=9*l.length:=fun l=>by
  induction l with
  | nil=>rfl
  | cons x r ih=>simp only [aO,List.flatMap_cons,List.length_append,Pt.aj,List.length_cons] at *;omega
 rw [this,bx];simp;omega
end Go.Sl
namespace Go.Proofs.YteldablklnfblaaGreatDoor
open Go.Sl
set_option maxRecDepth 10000
set_option maxHeartbeats 4000000
section
variable (s tk:Nat)(vA:Value)(ra rd txg note:Nat)(LA:List (Int×Value))(CA:Chunk)(hA:Mp ra .i64 LA CA)(all:List (Int×Ob))(VA:Chunk)(hG:eS wi LA all VA)
include hA hG
theorem K8 (k:Int)(g:Nat)(h:(du all k).2≠0):Ct 58 [ptr s,.int .i64 k,.int .u64 g] [[(s,bR tk vA ra rd txg note)],CA,VA] fun u Bs=>u = .tuple #[.slice none 0 0,.int .i64 (du all k).2]/\Bs=[[(s,bR tk vA ra rd txg note)],CA,VA]:=by
 by_cases hk:1<=k/\k<=112
 ·rcases hG.look k with ⟨h1,h2, -⟩ | ⟨v',o,V1,D,V2,h1,h2, -⟩
  ·rw [fe hk h2]
   refine st Tryz.func58 fun w0 => ?_
   refine gc (nA s tk vA ra rd txg note LA CA hA k hk h1) ?_
   rintro _ _ ⟨rfl,rfl⟩
   refine gz ?_
   exact fin ⟨rfl,rfl⟩ aa
  ·rw [eN hk h2] at h;exact absurd rfl h
 ·rw [dS hk]
  refine st Tryz.func58 fun w0 => ?_
  refine gc (kR s tk vA ra rd txg note k hk) ?_
  rintro _ _ ⟨rfl,rfl⟩
  refine gz ?_
  exact fin ⟨rfl,rfl⟩ aa
theorem PW (k:Int)(hk:1<=k/\k<=112)(g:Nat)(o:Ob)(hl:aH all k=some o)(bu:o.size<=65536) :
  Ct 58 [ptr s,.int .i64 k,.int .u64 g] [[(s,bR tk vA ra rd txg note)],CA,VA] fun u Bs=>∃ad c D,u = .tuple #[.slice ad (mb o.size 0 (cn o g) []).length c,.int .i64 0]/\az D 143 2 (.slice ad (mb o.size 0 (cn o g) []).length c) (mb o.size 0 (cn o g) []).length ((mb o.size 0 (cn o g) []).flatMap Sp.lay)/\Bs=[D,[(s,bR tk vA ra rd txg note)],CA,VA]:=by
 rcases hG.look k with ⟨-,h2, -⟩ | ⟨v',o',V1,D,V2,h1,h2,rfl,⟨ao,rfl,hO⟩, -, -⟩
 ·rw [hl] at h2;cases h2
 ·obtain rfl:o=o':=by rw [hl] at h2;exact Option.some.inj h2
  obtain ⟨jl,cP,DP,dQ,cI,xI,r,LF,CF,VF,hP,IV,hM,hF,rfl⟩:=hO
  have W3:=hP.rd
  have dr:=K7 o g
  refine st Tryz.func58 fun w0 => ?_
  refine gs ?_
  refine gc (lJ s tk vA ra rd txg note LA CA hA k hk ao h1) ?_
  rintro _ _ ⟨rfl,rfl⟩
  refine gm ?_;intro g10 C10 abK
  have hC:C10=[(g10,ax (aO (bx (cn o g) 0)) 108)]:=by
   rcases abK.2.2 with ⟨h,_⟩ | ⟨g',c',r',hv,rfl,_,_,hlen⟩
   ·cases h
   ·cases hv
    have h3:=abK.1
    obtain rfl:r'=[]:=List.eq_nil_of_length_eq_zero oZ
    rw [List.append_nil]
    have:(List.replicate 64 ah.lay).flatten=aO (bx (cn o g) 0):=by
     rw [pZ 64 ah Pt.lay];rfl
    rw [<-this];rfl
  subst hC
  refine gl [2,8,10,24,25] (fun (i:Nat)=>[(26,.int .i64 i)]) (fun i=>[[(g10,ax (aO (bx (cn o g) i)) 108)]]) (fun i=>i<=64) (fun i=>64 - i) 0 oZ ?_
  rintro i hi
  refine gi ?_ ?_ <;> intro bo
  ·have bm:i<64:=by omega
   have K6:(cn o g)[i]? = some (mP o g i):=PU bm
   have xA:=nD dr hi
   have nE:∀b:Bool,mP o g i=b->(match b with | true=>(aO (bx (cn o g) i)).set (i*9+3) (.int .u64 1) | false=>aO (bx (cn o g) i))=aO (bx (cn o g) (i+1)):=fun b hb=>by
    rw [hb] at K6
    cases b
    ·rw [Ef dr bm K6]
    ·exact yF dr bm K6
   rcases hF.look i with ⟨f1,f2, -⟩ | ⟨vf,bf,W1,F1,W2,f1,f2, -⟩
   ·by_cases hip:i<o.ay.length
    ·obtain ⟨x,hx⟩:∃x,o.ay[i]? = some x:=⟨_,List.getElem?_eq_getElem hip⟩
     have hs:=ar Pt.aj o.ay i _ hx
     have hs3:=hs 3 _ rfl
     obtain ⟨gP,oP,rfl⟩:=W3.addr oZ
     refine gi ?_ ?_ <;> intro hbt
     ·have nE:(aO (bx (cn o g) i)).set (i*9+3) (.int .u64 1)=aO (bx (cn o g) (i+1)):=nE true (by unfold mP;rw [hx,f2];simp;try omega)
      refine gn ?_
      rw [nE]
      exact ⟨i+1,by omega,by omega,aq,_,aa⟩
     ·have nE:aO (bx (cn o g) i)=aO (bx (cn o g) (i+1)):=nE false (by unfold mP;rw [hx,f2];simp;try omega)
      refine gn ?_
      rw [nE]
      exact ⟨i+1,by omega,by omega,aq,_,aa⟩
    ·have hx:o.ay[i]? = none:=List.getElem?_eq_none oZ
     have nE:aO (bx (cn o g) i)=aO (bx (cn o g) (i+1)):=nE false (by unfold mP;rw [hx,f2];rfl)
     refine gn ?_
     rw [nE]
     exact ⟨i+1,by omega,by omega,aq,_,aa⟩
   ·by_cases hip:i<o.ay.length
    ·obtain ⟨x,hx⟩:∃x,o.ay[i]? = some x:=⟨_,List.getElem?_eq_getElem hip⟩
     have hs:=ar Pt.aj o.ay i _ hx
     have hs3:=hs 3 _ rfl
     obtain ⟨gP,oP,rfl⟩:=W3.addr oZ
     refine gi ?_ ?_ <;> intro hbt
     ·have nE:(aO (bx (cn o g) i)).set (i*9+3) (.int .u64 1)=aO (bx (cn o g) (i+1)):=nE true (by unfold mP;rw [hx,f2];simp;try omega)
      have af0:((aO (bx (cn o g) i)).set (i*9+3) (.int .u64 1)).length=576:=by rw [List.length_set];exact xA
      refine gn ?_
      rw [List.set_set,nE]
      exact ⟨i+1,by omega,by omega,aq,_,aa⟩
     ·have nE:(aO (bx (cn o g) i)).set (i*9+3) (.int .u64 1)=aO (bx (cn o g) (i+1)):=nE true (by unfold mP;rw [hx,f2];simp;try omega)
      refine gn ?_
      rw [nE]
      exact ⟨i+1,by omega,by omega,aq,_,aa⟩
    ·have hx:o.ay[i]? = none:=List.getElem?_eq_none oZ
     have nE:(aO (bx (cn o g) i)).set (i*9+3) (.int .u64 1)=aO (bx (cn o g) (i+1)):=nE true (by unfold mP;rw [hx,f2];rfl)
     refine gn ?_
     rw [nE]
     exact ⟨i+1,by omega,by omega,aq,_,aa⟩
  ·obtain rfl:i=64:=by omega
   have jH:bx (cn o g) 64=(cn o g).map qP:=by unfold bx;rw [List.take_of_length_le oZ];simp
   rw [jH]
   have hR:Rd [(g10,ax (aO ((cn o g).map qP)) 108)] 9 (.slice (some ⟨g10,0,none⟩) 64 64) 64 (aO ((cn o g).map qP)):=by
    have h9:=nD dr (Nat.le_refl 64)
    rw [jH] at h9
    exact av oZ (fun u hu=>by obtain ⟨x, -,hx⟩:=List.mem_flatMap.1 hu;exact Pt.bC x u hx) oZ _
   refine gc (T3 _ _ 64 o.size (cn o g) dr bu hR) ?_
   rintro _ _ ⟨ad,c,D,rfl,hD,rfl⟩
   refine gz ?_
   exact fin ⟨ad,c,D,rfl,hD,rfl⟩ aa
end
end Go.Proofs.YteldablklnfblaaGreatDoor
namespace Go.Sl
def bB:Ob:=⟨true,0,ah,[],[],[],false⟩
def Ob.at (all:List (Int×Ob))(k:Int):Ob:=(aH all k).getD bB
def wrB (old:Nat->UInt8)(at_:Nat)(b:List UInt8)(j:Nat):UInt8:=if at_<=j/\j<at_+b.length then (b[j - at_]?).getD 0 else old j
def jL (old:Nat->UInt8)(at_:Nat)(b:List UInt8)(size i:Nat):List UInt8:=(List.range' (i*1024) (aS size i)).map (wrB old at_ b)
theorem iD (old:Nat->UInt8)(at_:Nat)(b:List UInt8)(size i:Nat):(jL old at_ b size i).length=aS size i:=by simp [jL]
def cR (at_ m:Nat)(q:Int):Bool:=decide (0<=q/\(at_:Int)<(q+1)*1024/\q*1024<at_+m/\0<m)
theorem I4 {old:Nat->UInt8}{at_:Nat}{b:List UInt8}{size i f d L:Nat}(hL:L=aS size i)(hs:at_+b.length<=size)(h1:at_<=f)(h2:i*1024<=f)(h3:f<(i+1)*1024)(h4:f<at_+b.length)(hd:d=f - i*1024)(h5:f=at_\/f=i*1024) :
  ((List.range' (i*1024) L).map old).take d++(b.drop (f - at_)).take (min ((i+1)*1024) (at_+b.length) - f)++((List.range' (i*1024) L).map old).drop (d+(min ((i+1)*1024) (at_+b.length) - f))=jL old at_ b size i:=by
 have K9:L=min 1024 (size - i*1024):=hL
 obtain ⟨e,he⟩:∃e,e=min ((i+1)*1024) (at_+b.length) - f:=⟨_,rfl⟩
 rw [<-he]
 apply List.ext_getElem
 ·rw [iD,<-hL];simp;omega
 ·intro k k1 k2
  rw [iD,<-hL] at k2
  simp only [jL,List.getElem_map,List.getElem_range',Nat.one_mul]
  by_cases c1:k<d
  ·rw [List.getElem_append_left (by simp;omega),List.getElem_append_left (by simp;omega)]
   simp only [List.getElem_take,List.getElem_map,List.getElem_range',Nat.one_mul,wrB]
   rw [if_neg oZ]
  ·by_cases c2:k<d+e
   ·rw [List.getElem_append_left (by simp;omega),List.getElem_append_right (by simp;omega)]
    simp only [List.getElem_take,List.getElem_drop,List.length_take,List.length_map,List.length_range',wrB]
    rw [if_pos oZ,List.getElem?_eq_getElem oZ]
    simp only [Option.getD_some]
    congr 1
    omega
   ·rw [List.getElem_append_right (by simp;omega)]
    simp only [List.getElem_drop,List.getElem_map,List.getElem_range',Nat.one_mul,List.length_append,List.length_take,List.length_drop,List.length_map,List.length_range',wrB]
    rw [if_neg oZ]
    congr 1
    omega
theorem Zy {g m:Nat}{T:TypeId}{b:List UInt8}(h:b.length=m)(hm:m<=4611686018427387904):az [(g,ax (ak b) T)] T 1 (.slice (some ⟨g,0,none⟩) m m) m (ak b):=by
 have:=uk (T:=T) (g:=g) (c:=m) (s:=1) (m:=m) (xs:=ak b) (r:=[]) (by rw [ai,h,Nat.mul_one]) (aK _) (Nat.le_refl _) (by simp only [maxLen];omega) (by rw [ai,h];simp)
 rwa [List.append_nil] at this
theorem wv {a f g:Nat}{q:Int}{i:Nat}(hi:i=f / 1024)(h1:a<=f)(h2:f<g)(h3:g<=(i+1)*1024)(h4:f=a\/f % 1024=0):cR a (g - a) q=(cR a (f - a) q||decide (q=i)):=by
 subst hi
 simp only [cR]
 rw [<-Bool.decide_or]
 exact decide_eq_decide.2 oZ
theorem yG {a f:Nat}{i:Nat}(hi:i=f / 1024)(h4:f=a\/f % 1024=0):cR a (f - a) i=false:=by
 subst hi
 simp only [cR]
 exact decide_eq_false oZ
theorem qg {β:Type}{MA MB:List (Int×β)}{q:Int}{x:β}(hn:((MA++(q,x) :: MB).map (·.1)).Nodup)(p:Int):aH (MA++MB) p=if p=q then none else aH (MA++(q,x) :: MB) p:=by
 rw [List.map_append,List.map_cons,List.nodup_append,List.nodup_cons] at hn
 obtain ⟨n1,⟨n2,n3⟩,n4⟩:=hn
 have key:∀(l:List (Int×β)),(∀e∈l,e.1≠p)->l.find? (fun e=>e.1==p)=none:=fun l h=>by
  rw [List.find?_eq_none];intro e he;simpa using h e he
 by_cases c:p=q
 ·subst c
  rw [if_pos rfl]
  unfold aH
  rw [key _ (fun e he => ?_)]; · rfl
  rcases List.mem_append.1 he with he | he
  ·exact n4 e.1 (List.mem_map_of_mem he) _ (List.mem_cons_self ..)
  ·rintro rfl;exact n2 (List.mem_map_of_mem (f:=(·.1)) he)
 ·rw [if_neg c]
  unfold aH
  rw [List.find?_append,List.find?_append,List.find?_cons_of_neg (by simpa using Ne.symm c)]
section
variable {β:Type}{R:Value->β->Chunk->Prop}
theorem eS.pull {A B:List (Int×Value)}{q:Int}{v:Value}:∀ {M:List (Int×β)} {V:Chunk},eS R (A++(q,v) :: B) M V ->
  ∃MA x MB V1 D V2,M=MA++(q,x) :: MB/\V=V1++(D++V2)/\R v x D/\eS R (A++B) (MA++MB) (V1++V2):=by
 induction A with
 | nil =>
  intro M V h
  cases M with
  | nil=>exact h.elim
  | cons e M =>
   obtain ⟨g,x⟩:=e
   obtain ⟨rfl,D,V',hD,hV,rfl⟩:=h
   exact ⟨[],x,M,[],D,V',rfl,rfl,hD,hV⟩
 | cons a A ih =>
  intro M V h
  obtain ⟨p,u⟩:=a
  cases M with
  | nil=>exact h.elim
  | cons e M =>
   obtain ⟨g,y⟩:=e
   obtain ⟨rfl,D,V',hD,hV,rfl⟩:=h
   obtain ⟨MA,x,MB,V1,E,V2,rfl,rfl,h3,h4⟩:=ih hV
   exact ⟨(p,y) :: MA,x,MB,D++V1,E,V2,rfl,by rw [List.append_assoc],h3,rfl,D,V1++V2,hD,h4,by rw [List.append_assoc]⟩
end
end Go.Sl
namespace Go.Proofs.YteldablklnfblaaGreatDoor
open Go.Sl
set_option maxRecDepth 10000
set_option maxHeartbeats 4000000
section
variable (s tk:Nat)(vA:Value)(ra rd txg note:Nat)
theorem G4 (k a:Int)(ad:Option Addr)(m c:Nat)(h:¬(1<=k/\k<=112)\/a<0\/65536<a\/65536 - a<m):Ct 42 [ptr s,.int .i64 k,.int .i64 a,.slice ad m c] [[(s,bR tk vA ra rd txg note)]] fun u Bs=>u = .int .i64 1/\Bs=[[(s,bR tk vA ra rd txg note)]]:=by
 have hh:=jC k
 by_cases hk:1<=k/\k<=112
 ·rw [decide_eq_true hk] at hh
  refine st Tryz.func42 fun w0 => ?_
  refine gc hh ?_
  rintro _ _ ⟨rfl,rfl⟩
  refine gg ?_ ?_ <;> intro h1
  ·refine gz ?_
   exact fin ⟨rfl,rfl⟩ aa
  refine gg ?_ ?_ <;> intro h2
  ·refine gz ?_
   exact fin ⟨rfl,rfl⟩ aa
  have hw:IntKind.i64.wrap (65536 - a)=65536 - a:=IntWalk.i64_in _ oZ
  have h3:65536 - a<m:=by omega
  refine gz ?_
  exact fin ⟨rfl,rfl⟩ aa
 ·rw [decide_eq_false hk] at hh
  refine st Tryz.func42 fun w0 => ?_
  refine gc hh ?_
  rintro _ _ ⟨rfl,rfl⟩
  refine gz ?_
  exact fin ⟨rfl,rfl⟩ aa
end
section
variable (T:TypeId)(fr:Nat×Nat)(p:Nat)(qs:List Nat)(t pool:Nat)(tp:Tp)(pr:Bool)(n:Nat)(ls:List (Option Lv))(no:Nat)(V:Chunk)(hV:jb t pool tp pr n ls no V)(ok:dK tp pr n ls.length)(dE:n<=2048)(R:Rk)(C:Chunk)(hC:bq p qs R C)(ho:dJ qs R n ls)(hall:∀x∈ls,x≠none)(bZ:R.off=false)
variable (s:Nat)(vA:Value)(ra rd txg note:Nat)(LA:List (Int×Value))(CA:Chunk)(hA:Mp ra .i64 LA CA)(all:List (Int×Ob))(VA:Chunk)(hG:eS wi LA all VA)(bu:∀e∈all,e.2.size<=65536)(hlen:all.length<=112)
include hV ok dE hA hG bu hlen
theorem Eg (k:Int)(hk:1<=k/\k<=112)(a m:Nat)(K5:a+m<=65536)(ad:Option Addr)(c:Nat)(hf:og all k (max (Ob.at all k).size (a+m)) (bD pr ls.length n / aN pr ls.length 1024 / 4 - 10)=false) :
  Ct 42 [ptr s,.int .i64 k,.int .i64 a,.slice ad m c] [[(s,bR t vA ra rd txg note)],V,CA,VA] fun u Bs=>u = .int .i64 3/\Bs=[[(s,bR t vA ra rd txg note)],V,CA,VA]:=by
 have hh:=jC k
 rw [decide_eq_true hk] at hh
 have bE:=rN s t pool tp pr n ls no V hV ok dE vA ra rd txg note LA CA hA all VA hG bu hlen k
 rcases hG.look k with ⟨h1,h2, -⟩ | ⟨v',o,V1,D,V2,h1,h2,rfl,⟨ao,rfl,hO⟩, -, -⟩
 ·have gA:Ob.at all k=bB:=by unfold Ob.at;rw [h2];rfl
  rw [gA] at hf
  have bE:=bE (max bB.size (a+m)) (by simp only [bB];omega)
  rw [hf] at bE
  refine st Tryz.func42 fun w0 => ?_
  refine gc hh ?_
  rintro _ _ ⟨rfl,rfl⟩
  refine uM .i64 ?_;intro r CF hM
  refine ga ?_;intro ao
  refine go ?_
  rw [show max (0:Int) ((a+m:Nat):Int)=((max bB.size (a+m):Nat):Int) by simp only [bB];omega]
  refine gc bE ?_
  rintro _ _ ⟨rfl,rfl⟩
  refine gz ?_
  exact fin ⟨rfl,rfl⟩ aa
 ·have gA:Ob.at all k=o:=by unfold Ob.at;rw [h2];rfl
  rw [gA] at hf
  have PX:o.size<=65536:=bu _ (aI h2)
  have bE:=bE (max o.size (a+m)) oZ
  rw [hf] at bE
  obtain ⟨jl,cP,DP,dQ,cI,DI,r,LF,CF,VF,hP,hI,hM,hF,rfl⟩:=hO
  refine st Tryz.func42 fun w0 => ?_
  refine gs ?_
  refine gc hh ?_
  rintro _ _ ⟨rfl,rfl⟩
  refine go ?_
  rw [show max (o.size:Int) ((a+m:Nat):Int)=((max o.size (a+m):Nat):Int) by omega]
  refine gc bE ?_
  rintro _ _ ⟨rfl,rfl⟩
  refine gs ?_
  refine gz ?_
  exact fin ⟨rfl,rfl⟩ aa
end
end Go.Proofs.YteldablklnfblaaGreatDoor
namespace Go.Sl
def aW (z:Nat):Nat:=(z+1023) / 1024
def jD (rd:Pt->List UInt8)(o:Ob)(z:Nat)(q:Int):Option (List UInt8):=if q<aW z then (if 0<z % 1024/\q=(z / 1024:Nat) then some ((o.fO rd (z / 1024)).take (z % 1024)) else aH o.fresh q) else none
theorem eS.abL {β:Type}{R:Value->β->Chunk->Prop}{L:List (Int×Value)}{M:List (Int×β)}{V:Chunk}(h:eS R L M V)(q:Int):∃V1 D0 V2,V=V1++(D0++V2)/\∀v x D,R v x D->eS R (gM L q v) (ec M q x) (V1++(D++V2)):=by
 rcases h.look q with ⟨-, -,h3⟩ | ⟨v,x,V1,D,V2, -, -,h3, -, -,h5⟩
 ·exact ⟨V,[],[],by simp,fun v x D hD=>by rw [List.append_nil];exact h3 v x D hD⟩
 ·exact ⟨V1,D,V2,h3,h5⟩
end Go.Sl
namespace Go.Proofs.YteldablklnfblaaGreatDoor
open Go.Sl
set_option maxRecDepth 10000
set_option maxHeartbeats 4000000
theorem ep (O:Chunk)(ad:Option Addr)(m c:Nat)(xs:List Value)(hR:Rd O 9 (.slice ad m c) m xs)(hm:m<=100000):Ct 111 [.slice ad m c] [O] fun u Bs=>∃ba c' D',u = .slice ba m c'/\az D' 108 9 (.slice ba m c') m xs/\Bs=[D',O]:=by
 by_cases h1:1<=m
 ·exact CO O ad m c xs hR ⟨h1,hm⟩
 ·obtain rfl:m=0:=by omega
  have Wn:xs=[]:=List.eq_nil_of_length_eq_zero (by have:=hR.1;omega)
  subst Wn
  cases ad with
  | none =>
   refine st Tryz.func111 fun w0 => ?_
   refine gz ?_
   exact fin ⟨none,0,[],rfl,az.nil _ _,rfl⟩ aa
  | some z =>
   refine st Tryz.func111 fun w0 => ?_
   refine gm ?_;intro b
   have hB:az [(b,ax [] 108)] 108 9 (.slice (some ⟨b,0,none⟩) 0 0) 0 []:=⟨rfl,by simp,.inr ⟨b,0,[],rfl,rfl,by omega,by simp [maxLen],rfl⟩⟩
   refine gp ?_;intro ba c' C' bA
   rw [Nat.zero_add,List.nil_append] at bA
   refine gz ?_
   exact fin ⟨ba,c',C',by rw [Nat.zero_add],bA,rfl⟩ aa
section
variable (T:TypeId)(fr:Nat×Nat)(p:Nat)(qs:List Nat)(t pool:Nat)(tp:Tp)(pr:Bool)(n:Nat)(ls:List (Option Lv))(no:Nat)(V:Chunk)(hV:jb t pool tp pr n ls no V)(ok:dK tp pr n ls.length)(dE:n<=2048)(R:Rk)(C:Chunk)(hC:bq p qs R C)(ho:dJ qs R n ls)(hall:∀x∈ls,x≠none)(bZ:R.off=false)
variable (s:Nat)(vA:Value)(ra rd txg note:Nat)(LA:List (Int×Value))(CA:Chunk)(hA:Mp ra .i64 LA CA)(all:List (Int×Ob))(VA:Chunk)(hG:eS wi LA all VA)(bu:∀e∈all,e.2.size<=65536)(hlen:all.length<=112)
theorem G5 (k z:Int)(h:z<0\/65536<z):Ct 44 [ptr s,.int .i64 k,.int .i64 z] [[(s,bR t vA ra rd txg note)]] fun u Bs=>u = .int .i64 1/\Bs=[[(s,bR t vA ra rd txg note)]]:=by
 refine st Tryz.func44 fun w0 => ?_
 rcases (show z<0\/(¬z<0/\65536<z) by omega) with h1 | ⟨h1,h2⟩
 ·refine gz ?_
  exact fin ⟨rfl,rfl⟩ aa
 ·refine gz ?_
  exact fin ⟨rfl,rfl⟩ aa
include hA hG
theorem La (k:Int)(z:Nat)(hz:z<=65536)(h:(du all k).2≠0):Ct 44 [ptr s,.int .i64 k,.int .i64 z] [[(s,bR t vA ra rd txg note)],CA,VA] fun u Bs=>u = .int .i64 (du all k).2/\Bs=[[(s,bR t vA ra rd txg note)],CA,VA]:=by
 by_cases hk:1<=k/\k<=112
 ·rcases hG.look k with ⟨h1,h2, -⟩ | ⟨v',o,V1,D,V2,h1,h2, -⟩
  ·rw [fe hk h2]
   refine st Tryz.func44 fun w0 => ?_
   refine gc (nA s t vA ra rd txg note LA CA hA k hk h1) ?_
   rintro _ _ ⟨rfl,rfl⟩
   refine gz ?_
   exact fin ⟨rfl,rfl⟩ aa
  ·rw [eN hk h2] at h;exact absurd rfl h
 ·rw [dS hk]
  refine st Tryz.func44 fun w0 => ?_
  refine gc (kR s t vA ra rd txg note k hk) ?_
  rintro _ _ ⟨rfl,rfl⟩
  refine gz ?_
  exact fin ⟨rfl,rfl⟩ aa
include hV ok dE bu hlen
theorem Eh (k:Int)(hk:1<=k/\k<=112)(z:Nat)(hz:z<=65536)(o:Ob)(hl:aH all k=some o)(hf:og all k z (bD pr ls.length n / aN pr ls.length 1024 / 4 - 10)=false):Ct 44 [ptr s,.int .i64 k,.int .i64 z] [[(s,bR t vA ra rd txg note)],V,CA,VA] fun u Bs=>u = .int .i64 3/\Bs=[[(s,bR t vA ra rd txg note)],V,CA,VA]:=by
 have bE:=rN s t pool tp pr n ls no V hV ok dE vA ra rd txg note LA CA hA all VA hG bu hlen k z hz
 rw [hf] at bE
 rcases hG.look k with ⟨-,h2, -⟩ | ⟨v',o',V1,D,V2,h1,h2,I5,⟨ao,rfl,hO⟩, -, -⟩
 ·rw [hl] at h2;cases h2
 ·refine st Tryz.func44 fun w0 => ?_
  refine gc (lJ s t vA ra rd txg note LA CA hA k hk ao h1) ?_
  rintro _ _ ⟨rfl,rfl⟩
  refine gc bE ?_
  rintro _ _ ⟨rfl,rfl⟩
  refine gz ?_
  exact fin ⟨rfl,rfl⟩ aa
include hC ho hall bZ
theorem PY (k:Int)(hk:1<=k/\k<=112)(z:Nat)(hz:z<=65536)(o:Ob)(hl:aH all k=some o)(xv:∀e∈o.fresh,0<=e.1/\e.1<=64)(hf:og all k z (bD pr ls.length n / aN pr ls.length 1024 / 4 - 10)=true)
  (dw:Pt->List UInt8) (PH:∀x∈o.ay,x≠ah->K0 R ls pr n x (dw x)) (pg:∀e∈o.fresh,e.2.length<=1024) (mw:o.ay.length<=64):Ct 44 [ptr s,.int .i64 k,.int .i64 z] [[(s,bR t vA ra rd txg note)],gK T fr,C,V,CA,VA] fun u Bs=>u = .int .i64 0/\∃V' bW,(∀q,aH bW q=if z<o.size then jD dw o z q else aH o.fresh q) /\
   eS wi LA (ec all k { o with size:=z,ay:=if z<o.size then o.ay.take (aW z) else o.ay,fresh:=bW,clean:=false }) V'/\Bs=[[(s,bR t vA ra rd txg note)],gK T fr,C,V,CA,V']:=by
 have bE:=rN s t pool tp pr n ls no V hV ok dE vA ra rd txg note LA CA hA all VA hG bu hlen k z hz
 rw [hf] at bE
 rcases hG.look k with ⟨-,h2, -⟩ | ⟨v',o',V1,D,V2,h1,h2,rfl,⟨ao,rfl,By⟩,bL, -⟩
 ·rw [hl] at h2;cases h2
 ·obtain rfl:o=o':=by rw [hl] at h2;exact Option.some.inj h2
  have PX:o.size<=65536:=bu _ (aI hl)
  have ef:=fun i hi=>qd T fr p qs t pool tp pr n ls no V hV ok R C hC ho hall bZ s vA ra rd txg note ao o PX D By i hi dw (fun x hx=>PH x (List.mem_of_getElem? hx)) pg
  obtain ⟨jl,cP,DP,dQ,cI,DX,r,LF,CF,VF,hP,AD,hM,hF,rfl⟩:=By
  have W3:=hP.rd
  refine st Tryz.func44 fun w0 => ?_
  refine gs ?_
  refine gc (lJ s t vA ra rd txg note LA CA hA k hk ao h1) ?_
  rintro _ _ ⟨rfl,rfl⟩
  refine gc bE ?_
  rintro _ _ ⟨rfl,rfl⟩
  refine gs ?_
  refine gi ?_ ?_ <;> intro PQ
  ·have PZ:z<o.size:=by omega
   rw [if_pos PZ]
   obtain ⟨kp,abM⟩:∃kp,kp=min (aW z) o.ay.length:=⟨_,rfl⟩
   have lY:(o.ay.take (aW z)).length=kp:=by rw [List.length_take,abM]
   have jE:aW z<=64:=by unfold aW;omega
   have ou:((aO o.ay).drop (0*9)).take ((kp - 0)*9)=aO (o.ay.take (aW z)):=by
    rw [Nat.zero_mul,List.drop_zero,Nat.sub_zero]
    show (List.flatMap _ _).take (kp*9)=List.flatMap _ _
    rw [kG Pt.aj,abM]
    congr 1
    refine List.take_eq_take_iff.2 ?_
    omega
   have HX:kp - 0=kp:=rfl
   have af1:=hP.dN
   refine gi ?_ ?_ <;> intro n7
   ·obtain ⟨fq,hfq⟩:∃l,l=(o.fO dw (z / 1024)).take (z % 1024):=⟨_,rfl⟩
    have ef:=ef (z / 1024) oZ
    have K9:aS o.size (z / 1024)=min 1024 (o.size - z / 1024*1024):=rfl
    obtain ⟨L,hL⟩:∃L,L=aS o.size (z / 1024):=⟨_,rfl⟩
    have OR:(o.fO dw (z / 1024)).length=L:=by rw [Ob.fO,dR,hL]
    rw [<-hL] at ef K9
    have IW:z % 1024<=L:=by omega
    refine gc ef ?_
    rintro _ _ ⟨g16,rfl,rfl⟩
    have aen:lI (.slice (some ⟨g16,0,none⟩) (z % 1024) (L - 0)) fq [(g16,ax (ak (o.fO dw (z / 1024))) 5)]:=by
     unfold lI
     have jH:fq.length=z % 1024:=by rw [hfq,List.length_take,OR];omega
     have h:=uk (T:=5) (g:=g16) (c:=L - 0) (s:=1) (m:=z % 1024) (xs:=ak fq) (r:=ak ((o.fO dw (z / 1024)).drop (z % 1024))) (by rw [ai,jH,Nat.mul_one]) (aK _) oZ (by simp only [maxLen];omega) (by rw [ai,ai,jH,List.length_drop,OR];omega)
     rw [<-aE,hfq,List.take_append_drop,<-hfq] at h
     rw [jH];exact h
    obtain ⟨W1,D0,W2,hVF,lS⟩:=hF.abL ((z / 1024:Nat):Int)
    subst hVF
    have hF1:=lS _ _ _ aen
    have hqA:∀q:Int,aH (ec o.fresh ((z / 1024:Nat):Int) fq) q=if 0<z % 1024/\q=(z / 1024:Nat) then some ((o.fO dw (z / 1024)).take (z % 1024)) else aH o.fresh q:=fun q=>by
     rw [ig]
     by_cases c:((z / 1024:Nat):Int)=q
     ·rw [if_pos c,if_pos ⟨by omega,c.symm⟩,hfq]
     ·rw [if_neg c,if_neg (fun h=>c h.2.symm)]
    refine gs ?_
    refine gv ?_
    refine gu ?_;intro CF1 hM1
    have I6:((z+1024 - 1) / 1024:Nat)=aW z:=by unfold aW;omega
    refine gd [0,4,8,12,16,20,24,28,32,36,40,44,48,53,56,60,67] ?_
    refine go ?_
    rw [I6,show min ((aW z:Nat):Int) (o.ay.length:Int)=(kp:Int) by omega]
    refine gw ?_;intro ad2 kD
    refine gc (ep _ ad2 kp _ _ kD oZ) ?_
    rintro _ _ ⟨fL,c3,DP3,rfl,hP3,rfl⟩
    refine gr ?_
    intro it DI hI
    refine gl [2,7,13,97] (fun (_:List (Int×Value)×List (Int×List UInt8)×Chunk×Chunk×List (Int×Value)×Chunk)=>[]) (fun (_,_,CF,VF,_,DI)=>[CF,VF,DI]) (fun (Ei,bW,wg,AE,rest,DI)=>yf r it .i64 Ei rest wg DI/\eS lI Ei bW AE/\∀q,aH bW q=if (aW z:Int)<=q/\q∉rest.map (·.1) then none else aH (ec o.fresh ((z / 1024:Nat):Int) fq) q) (fun (_,_,_,_,rest,_)=>rest.length) ((gM LF ((z / 1024:Nat):Int) (.slice (some ⟨g16,0,none⟩) (z % 1024) (L - 0))),(ec o.fresh ((z / 1024:Nat):Int) fq),CF1,(W1++([(g16,ax (ak (o.fO dw (z / 1024))) 5)]++W2)),(gM LF ((z / 1024:Nat):Int) (.slice (some ⟨g16,0,none⟩) (z % 1024) (L - 0))),DI) ⟨hI,hF1,fun q=>by
     by_cases c:(aW z:Int)<=q/\q∉(gM LF ((z / 1024:Nat):Int) (.slice (some ⟨g16,0,none⟩) (z % 1024) (L - 0))).map (·.1)
     ·rw [if_pos c]
      cases hc:aH (ec o.fresh ((z / 1024:Nat):Int) fq) q with
      | none=>rfl
      | some x=>exact absurd (by rw [<-hF1.keys];exact List.mem_map_of_mem (f:=(·.1)) (aI hc)) c.2
     ·rw [if_neg c]⟩ ?_
    clear hI ef bE
    rintro ⟨Ei,bW,wg,AE,rest,DI⟩ ⟨hI,Lb,ni⟩
    refine NM ?_ ?_
    ·rintro rfl
     have nK:∀q,aH bW q=if z<o.size then jD dw o z q else aH o.fresh q:=fun q=>by
      rw [if_pos PZ,ni,jD]
      by_cases c:q<(aW z:Int)
      ·rw [if_pos c,if_neg oZ];exact hqA q
      ·rw [if_neg c,if_pos ⟨by omega,by simp⟩]
     refine gz ?_
     exact fin ⟨rfl,_,bW,nK,bL { o with size:=z,ay:=o.ay.take (aW z),fresh:=bW,clean:=false } ([(ao,xF o.used z o.root (.slice fL kp c3) (.slice dQ o.index.length cI) r false)]++(DP3++(DX++(wg++AE)))) ⟨ao,rfl,fL,c3,DP3,_,_,DX,r,Ei,wg,AE,by rw [lY];exact hP3,AD,hI.mp,Lb,by rw [lY]⟩,rfl⟩ aa
    ·rintro X q v Y xI rfl gN qL hE
     have ek:=hI.nodup.1
     have hLn:=hI.mp.nodup
     have My:q∉(X++Y).map (·.1):=by
      rw [List.map_append,List.map_cons,List.nodup_append,List.nodup_cons] at ek
      rw [List.map_append,List.mem_append,not_or]
      exact ⟨fun h=>ek.2.2 q h q (List.mem_cons_self ..) rfl,ek.2.1.1⟩
     have im:(X++Y).length<(X++(q,v) :: Y).length:=by simp only [List.length_append,List.length_cons];omega
     have Bp:∀x:Int,x∈(X++(q,v) :: Y).map (·.1)↔x=q\/x∈(X++Y).map (·.1):=fun x=>by
      simp only [List.map_append,List.map_cons,List.mem_append,List.mem_cons]
      constructor
      ·rintro (h | h | h)
       ·exact .inr (.inl h)
       ·exact .inl h
       ·exact .inr (.inr h)
      ·rintro (h | h | h)
       ·exact .inr (.inl h)
       ·exact .inl h
       ·exact .inr (.inr h)
     refine NN ?_
     refine gi ?_ ?_ <;> intro xX
     ·obtain ⟨x,U1,D9,U2,hx,rfl,FD,P3⟩:=Lb.cut hLn gN
      have abG:(jU Ei q).isSome=true:=by rw [gN];rfl
      have pc:iu (X++Y) q=X++Y:=wc My
      refine gs ?_
      refine gx ?_
      intro P4 IV
      rw [pc] at IV
      refine gn ?_
      refine ⟨(_,_,P4,U1++U2,X++Y,xI),⟨IV,P3,fun x => ?_⟩,im,aq,_,aa⟩
      rw [Ax,ni]
      by_cases c:q=x
      ·subst c;rw [if_pos rfl,if_pos ⟨xX,My⟩]
      ·rw [if_neg c]
       by_cases c2:(aW z:Int)<=x/\x∉(X++Y).map (·.1)
       ·rw [if_pos c2,if_pos ⟨c2.1,fun h=>((Bp x).1 h).elim (fun e=>c e.symm) c2.2⟩]
       ·rw [if_neg c2,if_neg (fun h=>c2 ⟨h.1,fun hx=>h.2 ((Bp x).2 (.inr hx))⟩)]
     ·refine gn ?_
      refine ⟨(Ei,bW,wg,AE,X++Y,xI),⟨qL,Lb,fun x => ?_⟩,im,aq,_,aa⟩
      rw [ni]
      by_cases c2:(aW z:Int)<=x/\x∉(X++Y).map (·.1)
      ·rw [if_pos c2,if_pos ⟨c2.1,fun h=>((Bp x).1 h).elim (fun e=>by rw [e] at c2;exact xX c2.1) c2.2⟩]
      ·rw [if_neg c2,if_neg (fun h=>c2 ⟨h.1,fun hx=>h.2 ((Bp x).2 (.inr hx))⟩)]
   ·have hr0:¬0<z % 1024:=by omega
    have hqB:∀q:Int,aH o.fresh q=if 0<z % 1024/\q=(z / 1024:Nat) then some ((o.fO dw (z / 1024)).take (z % 1024)) else aH o.fresh q:=fun q=>by rw [if_neg (fun h=>hr0 h.1)]
    have I6:((z+1024 - 1) / 1024:Nat)=aW z:=by unfold aW;omega
    refine gd [0,4,8,12,16,20,24,28,32,36,40,44,48,53,56,60,67] ?_
    refine go ?_
    rw [I6,show min ((aW z:Nat):Int) (o.ay.length:Int)=(kp:Int) by omega]
    refine gw ?_;intro ad2 kD
    refine gc (ep _ ad2 kp _ _ kD oZ) ?_
    rintro _ _ ⟨fL,c3,DP3,rfl,hP3,rfl⟩
    refine gr ?_
    intro it DI hI
    refine gl [2,7,13,97] (fun (_:List (Int×Value)×List (Int×List UInt8)×Chunk×Chunk×List (Int×Value)×Chunk)=>[]) (fun (_,_,CF,VF,_,DI)=>[CF,VF,DI]) (fun (Ei,bW,wg,AE,rest,DI)=>yf r it .i64 Ei rest wg DI/\eS lI Ei bW AE/\∀q,aH bW q=if (aW z:Int)<=q/\q∉rest.map (·.1) then none else aH o.fresh q) (fun (_,_,_,_,rest,_)=>rest.length) (LF,o.fresh,CF,VF,LF,DI) ⟨hI,hF,fun q=>by
     by_cases c:(aW z:Int)<=q/\q∉LF.map (·.1)
     ·rw [if_pos c]
      cases hc:aH o.fresh q with
      | none=>rfl
      | some x=>exact absurd (by rw [<-(show eS lI LF o.fresh VF from hF).keys];exact List.mem_map_of_mem (f:=(·.1)) (aI hc)) c.2
     ·rw [if_neg c]⟩ ?_
    clear hI ef bE
    rintro ⟨Ei,bW,wg,AE,rest,DI⟩ ⟨hI,Lb,ni⟩
    refine NM ?_ ?_
    ·rintro rfl
     have nK:∀q,aH bW q=if z<o.size then jD dw o z q else aH o.fresh q:=fun q=>by
      rw [if_pos PZ,ni,jD]
      by_cases c:q<(aW z:Int)
      ·rw [if_pos c,if_neg oZ];exact hqB q
      ·rw [if_neg c,if_pos ⟨by omega,by simp⟩]
     refine gz ?_
     exact fin ⟨rfl,_,bW,nK,bL { o with size:=z,ay:=o.ay.take (aW z),fresh:=bW,clean:=false } ([(ao,xF o.used z o.root (.slice fL kp c3) (.slice dQ o.index.length cI) r false)]++(DP3++(DX++(wg++AE)))) ⟨ao,rfl,fL,c3,DP3,_,_,DX,r,Ei,wg,AE,by rw [lY];exact hP3,AD,hI.mp,Lb,by rw [lY]⟩,rfl⟩ aa
    ·rintro X q v Y xI rfl gN qL hE
     have ek:=hI.nodup.1
     have hLn:=hI.mp.nodup
     have My:q∉(X++Y).map (·.1):=by
      rw [List.map_append,List.map_cons,List.nodup_append,List.nodup_cons] at ek
      rw [List.map_append,List.mem_append,not_or]
      exact ⟨fun h=>ek.2.2 q h q (List.mem_cons_self ..) rfl,ek.2.1.1⟩
     have im:(X++Y).length<(X++(q,v) :: Y).length:=by simp only [List.length_append,List.length_cons];omega
     have Bp:∀x:Int,x∈(X++(q,v) :: Y).map (·.1)↔x=q\/x∈(X++Y).map (·.1):=fun x=>by
      simp only [List.map_append,List.map_cons,List.mem_append,List.mem_cons]
      constructor
      ·rintro (h | h | h)
       ·exact .inr (.inl h)
       ·exact .inl h
       ·exact .inr (.inr h)
      ·rintro (h | h | h)
       ·exact .inr (.inl h)
       ·exact .inl h
       ·exact .inr (.inr h)
     refine NN ?_
     refine gi ?_ ?_ <;> intro xX
     ·obtain ⟨x,U1,D9,U2,hx,rfl,FD,P3⟩:=Lb.cut hLn gN
      have abG:(jU Ei q).isSome=true:=by rw [gN];rfl
      have pc:iu (X++Y) q=X++Y:=wc My
      refine gs ?_
      refine gx ?_
      intro P4 IV
      rw [pc] at IV
      refine gn ?_
      refine ⟨(_,_,P4,U1++U2,X++Y,xI),⟨IV,P3,fun x => ?_⟩,im,aq,_,aa⟩
      rw [Ax,ni]
      by_cases c:q=x
      ·subst c;rw [if_pos rfl,if_pos ⟨xX,My⟩]
      ·rw [if_neg c]
       by_cases c2:(aW z:Int)<=x/\x∉(X++Y).map (·.1)
       ·rw [if_pos c2,if_pos ⟨c2.1,fun h=>((Bp x).1 h).elim (fun e=>c e.symm) c2.2⟩]
       ·rw [if_neg c2,if_neg (fun h=>c2 ⟨h.1,fun hx=>h.2 ((Bp x).2 (.inr hx))⟩)]
     ·refine gn ?_
      refine ⟨(Ei,bW,wg,AE,X++Y,xI),⟨qL,Lb,fun x => ?_⟩,im,aq,_,aa⟩
      rw [ni]
      by_cases c2:(aW z:Int)<=x/\x∉(X++Y).map (·.1)
      ·rw [if_pos c2,if_pos ⟨c2.1,fun h=>((Bp x).1 h).elim (fun e=>by rw [e] at c2;exact xX c2.1) c2.2⟩]
      ·rw [if_neg c2,if_neg (fun h=>c2 ⟨h.1,fun hx=>h.2 ((Bp x).2 (.inr hx))⟩)]
  ·rw [if_neg oZ]
   have hfq:∀q,aH o.fresh q=if z<o.size then jD dw o z q else aH o.fresh q:=fun q=>(if_neg oZ).symm
   refine gz ?_
   exact fin ⟨rfl,_,o.fresh,hfq,bL { o with size:=z,clean:=false } ([(ao,xF o.used z o.root (.slice jl o.ay.length cP) (.slice dQ o.index.length cI) r false)]++(DP++(DX++(CF++VF)))) ⟨ao,rfl,_,_,DP,_,_,DX,r,LF,CF,VF,hP,AD,hM,hF,rfl⟩,rfl⟩ aa
end
end Go.Proofs.YteldablklnfblaaGreatDoor
namespace Go.Sl
theorem WO.abN {X:Cx}{f:Fx}{ops:List Oper}{k:Kt}{Ms:List Chunk}{r:aA}{e:Env}{Ls Rs:List Chunk}{C:Chunk}(hs:gJ Ls [C] Rs)(g:WO X f ops k Ms r e (C :: Rs)):WO X f ops k Ms r e Ls:=.mk fun a w E S=>g.ap a w E (S.sw hs)
end Go.Sl
namespace Go.Proofs.YteldablklnfblaaGreatDoor
open Go.Sl
set_option maxRecDepth 10000
set_option maxHeartbeats 4000000
section
variable (t pool:Nat)(tp:Tp)(pr:Bool)(n:Nat)(ls:List (Option Lv))(no:Nat)(V:Chunk)(hV:jb t pool tp pr n ls no V)(ok:dK tp pr n ls.length)(dE:n<=2048)
variable (s:Nat)(vA:Value)(ra rd txg note:Nat)(LA:List (Int×Value))(CA:Chunk)(hA:Mp ra .i64 LA CA)(all:List (Int×Ob))(VA:Chunk)(hG:eS wi LA all VA)(bu:∀e∈all,e.2.size<=65536)(hlen:all.length<=112)
theorem Lc (k z:Int)(h:¬(1<=z/\z<=112)):Ct 46 [ptr s,.int .i64 k,.int .i64 z] [[(s,bR t vA ra rd txg note)]] fun u Bs=>u = .int .i64 1/\Bs=[[(s,bR t vA ra rd txg note)]]:=by
 have hh:=jC z
 rw [decide_eq_false h] at hh
 refine st Tryz.func46 fun w0 => ?_
 refine gc hh ?_
 rintro _ _ ⟨rfl,rfl⟩
 refine gz ?_
 exact fin ⟨rfl,rfl⟩ aa
include hA hG
theorem P5 (k z:Int)(hz:1<=z/\z<=112)(h:(du all k).2≠0):Ct 46 [ptr s,.int .i64 k,.int .i64 z] [[(s,bR t vA ra rd txg note)],CA,VA] fun u Bs=>u = .int .i64 (du all k).2/\Bs=[[(s,bR t vA ra rd txg note)],CA,VA]:=by
 have hh:=jC z
 rw [decide_eq_true hz] at hh
 by_cases hk:1<=k/\k<=112
 ·rcases hG.look k with ⟨h1,h2, -⟩ | ⟨v',o,V1,D,V2,h1,h2, -⟩
  ·rw [fe hk h2]
   refine st Tryz.func46 fun w0 => ?_
   refine gc hh ?_
   rintro _ _ ⟨rfl,rfl⟩
   refine gc (nA s t vA ra rd txg note LA CA hA k hk h1) ?_
   rintro _ _ ⟨rfl,rfl⟩
   refine gz ?_
   exact fin ⟨rfl,rfl⟩ aa
  ·rw [eN hk h2] at h;exact absurd rfl h
 ·rw [dS hk]
  refine st Tryz.func46 fun w0 => ?_
  refine gc hh ?_
  rintro _ _ ⟨rfl,rfl⟩
  refine gc (kR s t vA ra rd txg note k hk) ?_
  rintro _ _ ⟨rfl,rfl⟩
  refine gz ?_
  exact fin ⟨rfl,rfl⟩ aa
theorem G6 (k:Int)(hk:1<=k/\k<=112)(o:Ob)(hl:aH all k=some o):Ct 46 [ptr s,.int .i64 k,.int .i64 k] [[(s,bR t vA ra rd txg note)],CA,VA] fun u Bs=>u = .int .i64 0/\Bs=[[(s,bR t vA ra rd txg note)],CA,VA]:=by
 have hh:=jC k
 rw [decide_eq_true hk] at hh
 rcases hG.look k with ⟨-,h2, -⟩ | ⟨v',o',V1,D,V2,h1,h2,I5,⟨ao,rfl,hO⟩, -, -⟩
 ·rw [hl] at h2;cases h2
 ·refine st Tryz.func46 fun w0 => ?_
  refine gc hh ?_
  rintro _ _ ⟨rfl,rfl⟩
  refine gc (lJ s t vA ra rd txg note LA CA hA k hk ao h1) ?_
  rintro _ _ ⟨rfl,rfl⟩
  refine gz ?_
  exact fin ⟨rfl,rfl⟩ aa
include hV ok dE bu hlen
theorem G7 (k z:Int)(hk:1<=k/\k<=112)(hz:1<=z/\z<=112)(jE:k≠z)(o:Ob)(hl:aH all k=some o)(hf:og all z o.size (bD pr ls.length n / aN pr ls.length 1024 / 4 - 10)=false):Ct 46 [ptr s,.int .i64 k,.int .i64 z] [[(s,bR t vA ra rd txg note)],V,CA,VA] fun u Bs=>u = .int .i64 3/\Bs=[[(s,bR t vA ra rd txg note)],V,CA,VA]:=by
 have hh:=jC z
 rw [decide_eq_true hz] at hh
 have bE:=rN s t pool tp pr n ls no V hV ok dE vA ra rd txg note LA CA hA all VA hG bu hlen z o.size (bu _ (aI hl))
 rw [hf] at bE
 rcases hG.look k with ⟨-,h2, -⟩ | ⟨v',o',V1,D,V2,h1,h2,rfl,⟨ao,rfl,hO⟩, -, -⟩
 ·rw [hl] at h2;cases h2
 ·obtain rfl:o=o':=by rw [hl] at h2;exact Option.some.inj h2
  obtain ⟨jl,cP,DP,dQ,cI,DX,r,LF,CF,VF,hP,AD,hM,hF,rfl⟩:=hO
  refine st Tryz.func46 fun w0 => ?_
  refine gs ?_
  refine gc hh ?_
  rintro _ _ ⟨rfl,rfl⟩
  refine gc (lJ s t vA ra rd txg note LA CA hA k hk ao h1) ?_
  rintro _ _ ⟨rfl,rfl⟩
  refine gc bE ?_
  rintro _ _ ⟨rfl,rfl⟩
  refine gs ?_
  refine gz ?_
  exact fin ⟨rfl,rfl⟩ aa
theorem Ur (k z:Int)(hk:1<=k/\k<=112)(hz:1<=z/\z<=112)(jE:k≠z)(o:Ob)(hl:aH all k=some o)(hf:og all z o.size (bD pr ls.length n / aN pr ls.length 1024 / 4 - 10)=true)(pg:∀e∈o.fresh,1<=e.2.length/\e.2.length<=1024)(mw:o.ay.length<=64/\o.index.length<=64) :
  Ct 46 [ptr s,.int .i64 k,.int .i64 z] [[(s,bR t vA ra rd txg note)],V,CA,VA] fun u Bs=>u = .int .i64 0/\∃L' C' V' bW,(∀q,aH bW q=aH o.fresh q)/\Mp ra .i64 L' C'/\eS wi L' (ec all z { o with fresh:=bW }) V'/\Bs=[[(s,bR t vA ra rd txg note)],V,C',V']:=by
 have hh:=jC z
 rw [decide_eq_true hz] at hh
 have bE:=rN s t pool tp pr n ls no V hV ok dE vA ra rd txg note LA CA hA all VA hG bu hlen z o.size (bu _ (aI hl))
 rw [hf] at bE
 obtain ⟨Z1,Z0,Z2,hVZ,abO⟩:=hG.abL z
 rcases hG.look k with ⟨-,h2, -⟩ | ⟨v',o',V1,D,V2,h1,h2,I5,⟨ao,rfl,hO⟩, -, -⟩
 ·rw [hl] at h2;cases h2
 ·obtain rfl:o=o':=by rw [hl] at h2;exact Option.some.inj h2
  obtain ⟨jl,cP,DP,dQ,cI,DX,r,LF,CF,VF,hP,AD,hM,hF,rfl⟩:=hO
  have W3:=hP.rd
  have xD:=AD.rd
  have FC:=hF.keys
  refine st Tryz.func46 fun w0 => ?_
  refine gc hh ?_
  rintro _ _ ⟨rfl,rfl⟩
  refine gc (lJ s t vA ra rd txg note LA CA hA k hk ao h1) ?_
  rintro _ _ ⟨rfl,rfl⟩
  rw [I5] at bE ⊢
  refine gs ?_
  refine gc bE ?_
  rintro _ _ ⟨rfl,rfl⟩
  refine gs ?_
  refine gdo (aA.cons (0,0) (aA.cons (1,0) (aA.cons (2,0) (aA.cons (3,0) (aA.cons (4,0) (aA.cons (5,0) (aA.cons (6,0) (aA.cons (7,0) (aA.cons (9,0) (aA.cons (10,0) (aA.cons (11,0) (aA.cons (12,0) (aA.cons (15,0) (aA.cons (16,0) (aA.cons (17,0) (aA.cons (18,0) (aA.fork 8 (aA.fork 13 (aA.y7 [(14,1),(19,0),(20,3),(21,2)]) 14 (aA.y7 [(13,1),(19,0),(20,3),(21,2)])) 14 (aA.y7 [(8,1),(13,1),(19,0),(20,3),(21,2)])))))))))))))))))) ?_
  refine gk ?_ ?_
  case' refine_2 =>
   refine uM .i64 ?_;intro r9 C9 h9
   refine gc (ep DP jl o.ay.length cP _ W3 oZ) ?_
   rintro _ _ ⟨iK,c1,D1,rfl,Bq,rfl⟩
   refine gc (ep DX dQ o.index.length cI _ xD oZ) ?_
   rintro _ _ ⟨ad2,c2,D2,rfl,Ci,rfl⟩
  case' refine_1 =>
   refine gc (ep DP jl o.ay.length cP _ W3 oZ) ?_
   rintro _ _ ⟨iK,c1,D1,rfl,Bq,rfl⟩
   refine gk ?_ ?_
  case' refine_1.refine_1 =>
   refine gc (ep DX dQ o.index.length cI _ xD oZ) ?_
   rintro _ _ ⟨ad2,c2,D2,rfl,Ci,rfl⟩
   refine uM .i64 ?_;intro r9 C9 h9
  case' refine_1.refine_2 =>
   refine uM .i64 ?_;intro r9 C9 h9
   refine gc (ep DX dQ o.index.length cI _ xD oZ) ?_
   rintro _ _ ⟨ad2,c2,D2,rfl,Ci,rfl⟩
  all_goals
   clear bE
   refine ga ?_;intro g9
   refine gr ?_
   intro it DI hI
   refine gl [0,1,2,7,9,68] (fun (_:List (Int×Value)×List (Int×List UInt8)×Chunk×Chunk×List (Int×Value)×Chunk)=>[]) (fun (_,_,C9,V9,_,DI)=>[C9,V9,DI,V1++([(ao,xF o.used o.size o.root (.slice jl o.ay.length cP) (.slice dQ o.index.length cI) r o.clean)]++(DP++(DX++(CF++VF)))++V2)]) (fun (L9,M9,C9,V9,rest,DI)=>Mp r9 .i64 L9 C9/\eS lI L9 M9 V9/\yf r it .i64 LF rest CF DI/\∀q,aH M9 q=if q∈rest.map (·.1) then none else aH o.fresh q) (fun (_,_,_,_,rest,_)=>rest.length) ([],[],C9,[],LF,DI) ⟨h9,rfl,hI,fun q=>by
    by_cases c:q∈LF.map (·.1)
    ·rw [if_pos c];rfl
    ·rw [if_neg c]
     cases hc:aH o.fresh q with
     | none=>rfl
     | some x=>exact absurd (by rw [<-FC];exact List.mem_map_of_mem (f:=(·.1)) (aI hc)) c⟩ ?_
   clear h9 hI
   rintro ⟨L9,M9,C9,V9,rest,DI⟩ ⟨h9,hG9,hI,hq9⟩
   refine gs ?_
   refine NM ?_ ?_
   ·rintro rfl
    have nK:∀q,aH M9 q=aH o.fresh q:=fun q=>by rw [hq9,if_neg (by simp)]
    refine go ?_
    refine WO.abN (C:=V1++([(ao,xF o.used o.size o.root (.slice jl o.ay.length cP) (.slice dQ o.index.length cI) r o.clean)]++(DP++(DX++(CF++VF)))++V2)) aa ?_
    rw [<-I5,hVZ]
    refine gs ?_
    refine gu ?_;intro CA' dY
    refine gz ?_
    exact fin ⟨rfl,_,CA',_,M9,nK,dY,abO (ptr g9) { o with fresh:=M9 } ([(g9,xF o.used o.size o.root (.slice iK o.ay.length c1) (.slice ad2 o.index.length c2) r9 o.clean)]++(D1++(D2++(C9++V9)))) ⟨g9,rfl,iK,c1,D1,ad2,c2,D2,r9,L9,C9,V9,Bq,Ci,h9,hG9,rfl⟩,rfl⟩ aa
   ·rintro X q v Y xI rfl gN qL hE
    have ek:=hI.nodup.1
    have My:q∉(X++Y).map (·.1):=by
     rw [List.map_append,List.map_cons,List.nodup_append,List.nodup_cons] at ek
     rw [List.map_append,List.mem_append,not_or]
     exact ⟨fun h=>ek.2.2 q h q (List.mem_cons_self ..) rfl,ek.2.1.1⟩
    have im:(X++Y).length<(X++(q,v) :: Y).length:=by simp only [List.length_append,List.length_cons];omega
    rcases hF.look q with ⟨e1, -⟩ | ⟨v9,b9,U1,D9,U2,e1,e2,rfl,FD, -, -⟩
    ·rw [gN] at e1;cases e1
    ·obtain rfl:v=v9:=by rw [gN] at e1;exact Option.some.inj e1
     have hb9:1<=b9.length/\b9.length<=1024:=pg _ (aI e2)
     have G8:az D9 5 1 v b9.length (ak b9):=FD
     obtain ⟨MF,c9,rfl⟩:=G8.slice
     rcases hG9.look q with ⟨e3,e4,k3⟩ | ⟨_,_,_,_,_,_,e4, -⟩
     ·refine NN ?_
      refine gs ?_
      refine gd [0,4,8,12,16,20,25,31] ?_
      refine gc (CK D9 MF b9.length c9 _ G8.rd oZ) ?_
      rintro _ _ ⟨af2,c10,D10,rfl,aeo,rfl⟩
      refine gu ?_;intro C92 h92
      refine gn ?_
      refine ⟨(_,_,C92,V9++D10,X++Y,xI),⟨h92,k3 _ b9 D10 aeo,qL,fun x => ?_⟩,im,aq,_,aa⟩
      rw [ig,hq9]
      by_cases c:q=x
      ·subst c;rw [if_pos rfl,if_neg My,e2]
      ·rw [if_neg c]
       have:x∈(X++(q,Value.slice MF b9.length c9) :: Y).map (·.1)↔x∈(X++Y).map (·.1):=by
        simp only [List.map_append,List.map_cons,List.mem_append,List.mem_cons]
        constructor
        ·rintro (h | h | h)
         ·exact .inl h
         ·exact absurd h.symm c
         ·exact .inr h
        ·rintro (h | h)
         ·exact .inl h
         ·exact .inr (.inr h)
       simp only [this]
     ·rw [hq9,if_pos (by simp)] at e4;cases e4
end
end Go.Proofs.YteldablklnfblaaGreatDoor
