/-
  Texts put together (7).
-/
import Derived.Test.YteldablklnfblaaGreatDoorZTopTwice6
namespace Go.Sl
structure eX where
 used:Bool
 size:Nat
 root:Pt
deriving DecidableEq
def eu:eX:=⟨false,0,ah⟩
def eX.lay (s:eX):List Value:=[.bool s.used,.int .i64 s.size,.int .i64 s.root.top,.int .i64 s.root.at_,.int .i64 s.root.bytes,.int .u64 s.root.bh,.int .i64 s.root.kind,.int .u64 s.root.a,.int .u64 s.root.b,.int .u64 s.root.c,.int .u64 s.root.d]
abbrev eX.agg (s:eX):Value:=.agg #[.bool s.used,.int .i64 s.size,.int .i64 s.root.top,.int .i64 s.root.at_,.int .i64 s.root.bytes,.int .u64 s.root.bh,.int .i64 s.root.kind,.int .u64 s.root.a,.int .u64 s.root.b,.int .u64 s.root.c,.int .u64 s.root.d]
theorem eX.aj (s:eX):s.lay.length=11:=rfl
structure eX.Ok (s:eX):Prop where
 no:s.used=false->s=eu
 size:s.size<=65536
 root:fB s.root=0
 ok:s.root.Ok
theorem va:eu.Ok:=⟨fun _=>rfl,by simp [eu],by simp [eu,fB],dx⟩
def eY (s:eX):List UInt8:=ae (if s.used then 1 else 0) 1++List.replicate 3 0++ae s.size 4++di s.root
theorem np (s:eX):(eY s).length=72:=by simp [eY,af,aZ]
def fJ (l:List eX):List UInt8:=l.flatMap eY
theorem mG (l:List eX):(fJ l).length=72*l.length:=by
 induction l with
 | nil=>rfl
 | cons x r ih=>simp only [fJ,List.flatMap_cons,List.length_append,np,List.length_cons] at *;omega
theorem Ko {l:List eX}{i:Nat}(h:i<l.length):fJ (l.take (i+1))=fJ (l.take i)++eY l[i]:=by rw [fJ,gX h,List.flatMap_append,List.flatMap_singleton];rfl
theorem Tu (s:eX):cut (eY s) 0 1=ae (if s.used then 1 else 0) 1:=by
 simp only [cut,eY,List.drop_zero,List.append_assoc]
 exact List.take_left' (af _ _)
theorem Tv (s:eX):(cut (eY s) 1 3)=List.replicate 3 0:=by
 simp only [cut,eY,List.append_assoc]
 rw [List.drop_left' (af _ _),List.take_left' List.length_replicate]
theorem Tw (s:eX):cut (eY s) 4 4=ae s.size 4:=by
 unfold cut eY
 rw [List.append_assoc,List.drop_left' (by simp [af]),List.take_left' (af _ _)]
theorem Tx (s:eX):cut (eY s) 8 64=di s.root:=by
 unfold cut eY
 rw [List.drop_left' (by simp [af]),List.take_of_length_le (by rw [aZ];omega)]
end Go.Sl
namespace Go.Proofs.YteldablklnfblaaGreatDoor
open Go.Sl
set_option maxRecDepth 10000
set_option maxHeartbeats 4000000
theorem Ws (s:eX)(h:s.Ok):Ct 180 [s.agg] [] fun u Bs=>u = .bool true/\Bs=[]:=by
 have h1:=kF s.root h.root
 have hs:=h.size
 cases hu:s.used with
 | false =>
  have h0:=h.no hu
  subst h0
  refine st Tryz.func180 fun w0 => ?_
  refine ga ?_;intro b1
  refine gz ?_
  exact fin ⟨rfl,rfl⟩ aa
 | true =>
  obtain ⟨u,n,r⟩:=s
  simp only at hu hs h1
  subst hu
  dsimp only [eX.agg]
  refine st Tryz.func180 fun w0 => ?_
  refine ga ?_;intro b1
  refine gc h1 ?_
  rintro _ _ ⟨rfl,rfl⟩
  refine gz ?_
  exact fin ⟨rfl,rfl⟩ aa
theorem Ty (p:Nat)(bs:List UInt8)(i k:Nat)(A:Chunk)(hA:oA p bs i 0 A)(hi:i<=k/\k<=bs.length)(hz:cut bs i (k - i)=List.replicate (k - i) 0):Ct 177 [ptr p,.int .i64 k] [A] fun _ Bs=>∃A',oA p bs k 0 A'/\Bs=[A']:=by
 obtain ⟨g,hb,rfl⟩:=hA
 have hR:=zD bs hb g
 have hn:k - i=k - i:=rfl
 have hl:(cut bs i (k - i)).length=k - i:=by rw [hz,List.length_replicate]
 have ou:((ak bs).drop (i*1)).take ((k - i)*1)=ak (List.replicate (k - i) 0):=by
  rw [Nat.mul_one,Nat.mul_one,aY,aL,<-hz];rfl
 refine st Tryz.func177 fun w0 => ?_
 refine gs ?_
 refine ga ?_;intro b1
 refine ga ?_;intro b2
 refine ge ?_
 refine ge ?_
 refine gw ?_;intro ad kD
 refine gl [0,1,29,30] (fun j:Nat=>[(31,.int .i64 j)]) (fun _=>[]) (fun j=>j<=k - i) (fun j=>k - i - j) 0 (Nat.zero_le _) ?_
 rintro j hj
 refine gi ?_ ?_ <;> intro bo
 ·have hx:(List.replicate (k - i) (0:UInt8))[j]? = some 0:=by rw [List.getElem?_replicate,if_pos oZ]
  obtain ⟨b,off,rfl⟩:=kD.addr oZ
  refine gn ?_
  exact ⟨j+1,by omega,by omega,aq,_,aa⟩
 ·refine gz ?_
  exact fin ⟨_,⟨g,hb,rfl⟩,rfl⟩ aa
theorem Tz (O:Chunk)(ad:Option Addr)(n c:Nat)(l:List eX)(hn:l.length=n)(hR:Rd O 11 (.slice ad n c) n (l.flatMap eX.lay))(hb:n<=112)(hp:∀s∈l,s.Ok) :
  Ct 161 [.slice ad n c] [O] fun u Bs=>∃g,u = .tuple #[.slice (some ⟨g,0,none⟩) (72*n) (72*n),.int .i64 0]/\Bs=[[(g,ax (ak (fJ l)) 5)],O]:=by
 refine st Tryz.func161 fun w0 => ?_
 refine gc (uQ (72*n) oZ) ?_
 rintro _ _ ⟨p,A,rfl,hA,rfl⟩
 refine gl [0,4,17,18] (fun ((i,_):Nat×Chunk)=>[(19,.int .i64 i)]) (fun (_,A)=>[A]) (fun (i,A)=>i<=n/\xd p (72*n) (fJ (l.take i)) A) (fun (i,_)=>n - i) (0,A) ⟨by omega,hA⟩ ?_
 clear hA
 rintro ⟨i,A⟩ ⟨hi,hA⟩
 have hlen:(fJ (l.take i)).length=72*i:=by rw [mG,List.length_take,hn];omega
 refine gi ?_ ?_ <;> intro bo
 ·have bm:i<l.length:=by omega
  obtain ⟨s,Kp⟩:∃s,s=l[i]:=⟨_,rfl⟩
  have hx:l[i]? = some s:=by rw [Kp];exact List.getElem?_eq_getElem bm
  have hs:=ar eX.aj l i _ hx
  have aQ:=hp s (by rw [Kp];exact List.getElem_mem _)
  have bu:=aQ.size
  obtain ⟨g,o,rfl⟩:=hR.addr oZ
  have adp:=Ws s aQ
  have ads:=u2 s.root aQ.root aQ.ok
  have adt:=fun A1 h=>fA p (72*n) (fJ (l.take i)) A1 (if s.used then 1 else 0) 1 h oZ (by split <;> omega) oZ
  have abl:=fun A1 h=>Il p (72*n) (fJ (l.take i)++ae (if s.used then 1 else 0) 1) A1 (72*i+4) h ⟨by rw [List.length_append,hlen,af];omega,by omega⟩
  rw [show 72*i+4 - (fJ (l.take i)++ae (if s.used then 1 else 0) 1).length=3 by rw [List.length_append,hlen,af];omega] at abl
  have abm:=fun A1 h=>fA p (72*n) (fJ (l.take i)++ae (if s.used then 1 else 0) 1++List.replicate 3 0) A1 s.size 4 h oZ oZ (by simp only [List.length_append,hlen,af,List.length_replicate];omega)
  have pE:=Ko bm
  rw [<-Kp] at pE
  have xo:=fun A1 D v h hD=>nj p (72*n) (fJ (l.take i)++ae (if s.used then 1 else 0) 1++List.replicate 3 0++ae s.size 4) (di s.root) A1 D v h hD (by simp only [List.length_append,hlen,af,List.length_replicate,aZ];omega)
  rw [show fJ (l.take i)++ae (if s.used then 1 else 0) 1++List.replicate 3 0++ae s.size 4++di s.root=fJ (l.take (i+1)) by rw [pE];simp [eY]] at xo
  have hRe:∀Wr,Rd [(Wr,ax (ak (di s.root)) 5)] 1 (.slice (some ⟨Wr,0,none⟩) 64 64) (di s.root).length (ak (di s.root)):=fun Wr=>by
   rw [aZ];exact av (by rw [ai,aZ]) (aK _) oZ _
  clear pE Kp hx aQ
  obtain ⟨used,size,root⟩:=s
  cases used
  all_goals
   simp only [if_pos,if_neg,Bool.false_eq_true,eX.lay] at *
   refine ga ?_;intro b6
   refine gc adp ?_
   rintro _ _ ⟨rfl,rfl⟩
   refine gc ads ?_
   rintro _ _ ⟨Wr,rfl,rfl⟩
   refine gc (adt A hA) ?_
   rintro _ _ ⟨A1,ma,rfl⟩
   refine gc (abl A1 ma) ?_
   rintro _ _ ⟨A2,lA,rfl⟩
   refine gc (abm A2 lA) ?_
   rintro _ _ ⟨A3,u1,rfl⟩
   refine gc (xo A3 _ _ u1 (hRe Wr)) ?_
   rintro _ _ ⟨A4,xf,rfl⟩
   refine gn ?_
   exact ⟨(i+1,A4),⟨by omega,xf⟩,by simp only;omega,aq,_,aa⟩
 ·obtain rfl:i=n:=by omega
  rw [List.take_of_length_le oZ] at hA hlen
  have hD:=oz p _ (fJ l) A hA oZ
  rw [hlen] at hD
  refine gc hD ?_
  rintro _ _ ⟨g,rfl,rfl⟩
  refine gz ?_
  exact fin ⟨g,rfl,rfl⟩ aa
end Go.Proofs.YteldablklnfblaaGreatDoor
namespace Go.Sl
def cost (n:Nat):Nat:=if n=0 then 0 else ((n - 1) / 1024+1)+(((n - 1) / 1024+1 - 1) / 16+1)+1
theorem lC {n:Nat}(h:n<=65536):cost n<=69:=by unfold cost;split <;> omega
end Go.Sl
namespace Go.Proofs.YteldablklnfblaaGreatDoor
open Go.Sl
set_option maxRecDepth 10000
set_option maxHeartbeats 4000000
theorem TA (O:Chunk)(ad:Option Addr)(n c k:Nat)(l:List eX)(hk:l.length=k)(hn:n=72*k)(hR:Rd O 1 (.slice ad n c) n (ak (fJ l)))(hc:n<=c)(hb:1<=k/\k<=112)(hp:∀s∈l,s.Ok) :
  Ct 124 [.slice ad n c] [O] fun u Bs=>∃ba c' D,u = .tuple #[.slice ba k c',.int .i64 0]/\az D 134 11 (.slice ba k c') k (l.flatMap eX.lay)/\Bs=[D,O]:=by
 subst hn
 have SE:jt 72 (fJ l)=l.map eY:=pO oZ np l
 have hN:cY (72*k) 72=k:=oC oZ oZ
 have hm0:(72*k) % 72=0:=by omega
 refine st Tryz.func124 fun w0 => ?_
 refine gc (rB O ad _ c 72 _ (by rw [mG,hk]) hR hc oZ oZ) ?_
 rintro _ _ ⟨iK,c1,vs,D0,V0,rfl,Fo,Tt,rfl⟩
 rw [hN] at Fo ⊢
 rw [SE] at Tt
 have u9:=Fo.rd
 obtain ⟨g1,o1,rfl⟩:=u9.addr oZ
 refine gl [22,23] (fun ((i,v4,_):Nat×Value×Chunk)=>[(24,.int .i64 i),(4,v4)]) (fun (_,_,D)=>[D]) (fun (i,v4,D)=>i<=k/\(∃pN c4,v4 = .slice pN i c4)/\az D 134 11 v4 i ((l.take i).flatMap eX.lay)) (fun (i,_)=>k - i) (0,.slice none 0 0,[]) ⟨by omega,⟨none,0,rfl⟩,az.nil _ _⟩ ?_
 rintro ⟨i,v4,D⟩ ⟨hi,⟨pN,c4,rfl⟩,hD⟩
 refine gi ?_ ?_ <;> intro bo
 ·have bm:i<l.length:=by omega
  obtain ⟨v,YM,xz⟩:=Tt.rd (i:=i) (by simpa using bm)
  rw [List.getElem_map] at xz
  obtain ⟨s,Kp⟩:∃s,s=l[i]:=⟨_,rfl⟩
  rw [<-Kp,np] at xz
  have aQ:=hp s (by rw [Kp];exact List.getElem_mem _)
  have bu:=aQ.size
  have abn:=np s
  obtain ⟨j8,cv,rfl⟩:=xz.slice
  have e1:=fun p A h=>cj p (eY s) 0 1 A h oZ oZ
  rw [Tu,mC (by split <;> omega)] at e1
  obtain ⟨un,y6⟩:∃un:Nat,un=(if s.used=true then 1 else 0):=⟨_,rfl⟩
  have hub:((un:Int)==1)=s.used:=by rw [y6];cases s.used <;> rfl
  have M4:un<=1:=by rw [y6];split <;> omega
  rw [<-y6] at e1
  clear y6
  have e2:=fun p A h=>Ty p (eY s) 1 4 A h oZ (Tv s)
  have e3:=fun p A h=>cj p (eY s) 4 4 A h oZ oZ
  rw [Tw,mC oZ] at e3
  have e4:=fun p A h=>pI p (eY s) 8 64 A h oZ
  rw [Tx] at e4
  have e5:=fun p A h=>tA p (eY s) 72 0 A h oZ
  rw [abn] at e5
  have e6:=fun b=>u5 [(b,ax (ak (di s.root)) 5)] (some ⟨b,0,none⟩) 64 s.root aQ.root aQ.ok (av (by rw [ai,aZ]) (aK _) oZ _)
  have e7:=Ws s aQ
  have e8:(l.take (i+1)).flatMap eX.lay=(l.take i).flatMap eX.lay++s.lay:=by rw [gX bm,<-Kp];simp
  have hwc:IntKind.i64.wrap (s.size:Int)=s.size:=IntWalk.i64_in _ oZ
  refine gc (rq (eY s) 72 abn oZ V0 _ xz) ?_
  rintro _ _ ⟨p,A,rfl,hA,rfl⟩
  refine gc (e1 p A hA) ?_
  rintro _ _ ⟨A1,rfl,ma,rfl⟩
  refine gc (e2 p A1 ma) ?_
  rintro _ _ ⟨A2,lA,rfl⟩
  refine gc (e3 p A2 lA) ?_
  rintro _ _ ⟨A3,rfl,u1,rfl⟩
  have e4:=e4 p A3 u1
  have e5:=fun A4 h=>e5 p A4 h
  clear aQ Kp e1 e2 e3 hA ma lA
  refine ga ?_;intro b9
  rw [hub]
  refine gc e4 ?_
  rintro _ _ ⟨A4,b,rfl,xf,rfl⟩
  refine gc (e6 b) ?_
  rintro _ _ ⟨rfl,rfl⟩
  refine ga ?_;intro xc
  refine gc (e5 A4 xf) ?_
  rintro _ _ ⟨rfl,rfl⟩
  refine gc e7 ?_
  rintro _ _ ⟨rfl,rfl⟩
  refine gm ?_;intro b66
  refine gp ?_;intro ry c5 D5 hD5
  refine gn ?_
  exact ⟨(i+1,_,D5),⟨by omega,⟨ry,c5,rfl⟩,by rw [e8];exact hD5⟩,by simp only;omega,aq,_,aa⟩
 ·obtain rfl:i=k:=by omega
  rw [List.take_of_length_le oZ] at hD
  refine gz ?_
  exact fin ⟨pN,c4,D,rfl,hD,rfl⟩ aa
theorem Wu (a b:Nat)(ha:1<=a/\a<=100000)(hb:1<=b)(hb2:b<=100000):Ct 214 [.int .i64 a,.int .i64 b] [] fun u Bs=>u = .int .i64 ((a - 1) / b+1:Nat)/\Bs=[]:=by
 have h1:(a - 1) / b<=a:=Nat.le_trans (Nat.div_le_self _ _) oZ
 refine st Tryz.func214 fun w0 => ?_
 refine gz ?_
 exact fin ⟨rfl,rfl⟩ aa
theorem Gn (n:Nat)(hn:n<=100000):Ct 156 [.int .i64 n] [] fun u Bs=>u = .int .i64 (cost n)/\Bs=[]:=by
 refine st Tryz.func156 fun w0 => ?_
 refine gi ?_ ?_ <;> intro h
 ·obtain rfl:n=0:=by omega
  refine gz ?_
  exact fin ⟨rfl,rfl⟩ aa
 ·have h1:(n - 1) / 1024<=100000:=Nat.le_trans (Nat.div_le_self _ _) oZ
  have h2:((n - 1) / 1024+1 - 1) / 16<=100000:=Nat.le_trans (Nat.div_le_self _ _) oZ
  refine gc (Wu n 1024 oZ oZ oZ) ?_
  rintro _ _ ⟨rfl,rfl⟩
  refine gc (Wu ((n - 1) / 1024+1) 16 oZ oZ oZ) ?_
  rintro _ _ ⟨rfl,rfl⟩
  refine gz ?_
  exact fin ⟨by unfold cost;rw [if_neg oZ],rfl⟩ aa
end Go.Proofs.YteldablklnfblaaGreatDoor
namespace Go.Sl
abbrev eG:=List UInt8
structure Dk where
 fo:List eG
 now:List eG
 dead:Bool
structure Wt where
 d:Nat
 at_:Nat
 b:eG
structure Rk where
 ds:List Dk
 ws:List Wt
 left:Option Nat
 off:Bool
inductive Ev where
 | w (d at_:Nat) (b:eG)
 | f (d:Nat)
def Rk.put (R:Rk)(d at_:Nat)(b:eG):Rk:={ R with ds:=R.ds.modify d fun x=>{ x with now:=x.now.set at_ b },ws:=R.ws++[⟨d,at_,b⟩] }
def Rk.ev (R:Rk):Ev->Rk
 | .w d a b=>if R.off then R else match R.left with
  | none=>R.put d a b
  | some 0=>{ R with off:=true,left:=none }
  | some (n+1)=>{ R.put d a b with left:=some n }
 | .f d=>if R.off then R else { R with ds:=R.ds.modify d fun x=>{ x with fo:=x.now },ws:=R.ws.filter fun w=>w.d != d }
def Rk.run (R:Rk)(l:List Ev):Rk:=l.foldl Rk.ev R
def Rk.size (R:Rk)(d:Nat):Nat:=((R.ds[d]?).map (·.now.length)).getD 0
def Rk.now (R:Rk)(d a:Nat):eG:=((R.ds[d]?).bind (·.now[a]?)).getD []
def Rk.pl (R:Rk)(d a:Nat):eG:=((R.ds[d]?).bind (·.fo[a]?)).getD []
def Rk.live (R:Rk)(d:Nat):Prop:=((R.ds[d]?).map (·.dead))=some false
structure Rk.Ok (R:Rk):Prop where
 len:∀x∈R.ds,x.fo.length=x.now.length/\x.now.length<=8192
 sec:∀x∈R.ds,(∀s∈x.fo,s.length=128)/\∀s∈x.now,s.length=128
 ws:∀w∈R.ws,w.at_<R.size w.d/\w.b.length=128
def Ev.ok (R:Rk):Ev->Prop
 | .w d a b=>a<R.size d/\b.length=128
 | .f _=>True
@[simp] theorem Rk.acE (R:Rk):R.run []=R:=rfl
theorem Rk.eZ (R:Rk)(e:Ev)(l:List Ev):R.run (e :: l)=(R.ev e).run l:=rfl
theorem Rk.jv (R:Rk)(l m:List Ev):R.run (l++m)=(R.run l).run m:=List.foldl_append
theorem Rk.Ow {R:Rk}(h:R.off=true)(e:Ev):R.ev e=R:=by cases e <;> simp [Rk.ev,h]
theorem Rk.jV {R:Rk}(h:R.off=true):∀(l:List Ev),R.run l=R
 | []=>rfl
 | e :: l=>by rw [Rk.eZ,Rk.Ow h,Rk.jV h l]
theorem Rk.tC (R:Rk)(e:Ev)(d:Nat):(R.ev e).size d=R.size d:=by
 have hp:∀d' a b,(R.put d' a b).size d=R.size d:=fun d' a b=>by
  simp only [Rk.size,Rk.put,List.getElem?_modify]
  cases hx:R.ds[d]? with
  | none=>simp
  | some x=>by_cases c:d'=d <;> simp [c]
 cases e with
 | w d' a b =>
  simp only [Rk.ev]
  split
  ·rfl
  ·split
   ·exact hp ..
   ·rfl
   ·exact hp ..
 | f d' =>
  simp only [Rk.ev]
  split
  ·rfl
  ·simp only [Rk.size,List.getElem?_modify]
   cases hx:R.ds[d]? with
   | none=>simp
   | some x=>by_cases c:d'=d <;> simp [c]
theorem Rk.dj (R:Rk)(l:List Ev)(d:Nat):(R.run l).size d=R.size d:=by
 induction l generalizing R with
 | nil=>rfl
 | cons e l ih=>rw [Rk.eZ,ih,Rk.tC]
theorem Rk.TC (R:Rk)(e:Ev)(d:Nat):(R.ev e).live d↔R.live d:=by
 have hm:∀(d':Nat) (g:Dk->Dk),(∀x,(g x).dead=x.dead)->(((R.ds.modify d' g)[d]?).map (·.dead))=(R.ds[d]?).map (·.dead):=fun d' g hg=>by
  rw [List.getElem?_modify]
  cases hx:R.ds[d]? with
  | none=>simp
  | some x=>by_cases c:d'=d <;> simp [c,hg]
 unfold Rk.live
 cases e with
 | w d' a b =>
  simp only [Rk.ev]
  split
  ·rfl
  ·split
   ·exact Iff.of_eq (congrArg (· = some false) (hm _ _ fun _=>rfl))
   ·rfl
   ·exact Iff.of_eq (congrArg (· = some false) (hm _ _ fun _=>rfl))
 | f d' =>
  simp only [Rk.ev]
  split
  ·rfl
  ·exact Iff.of_eq (congrArg (· = some false) (hm _ _ fun _=>rfl))
theorem Rk.eh (R:Rk)(l:List Ev)(d:Nat):(R.run l).live d↔R.live d:=by
 induction l generalizing R with
 | nil=>rfl
 | cons e l ih=>rw [Rk.eZ,ih,Rk.TC]
theorem mem_modify {α:Type}{l:List α}{i:Nat}{g:α->α}{y:α}(h:y∈l.modify i g):∃x∈l,y=x\/(l[i]? = some x/\y=g x):=by
 obtain ⟨j,hj⟩:=List.mem_iff_getElem?.1 h
 rw [List.getElem?_modify] at hj
 cases hx:l[j]? with
 | none=>rw [hx] at hj;simp at hj
 | some x =>
  rw [hx] at hj
  refine ⟨x,List.mem_of_getElem? hx, ?_⟩
  by_cases c:i=j
  ·subst c;simp at hj;exact .inr ⟨hx,hj.symm⟩
  ·simp [c] at hj;exact .inl hj.symm
theorem Rk.Ok.put {R:Rk}(h:R.Ok){d a:Nat}{b:eG}(ha:a<R.size d)(hb:b.length=128):(R.put d a b).Ok:=by
 refine ⟨fun y hy => ?_,fun y hy => ?_,fun w hw => ?_⟩
 ·obtain ⟨x,hx,rfl | ⟨-,rfl⟩⟩:=mem_modify hy
  ·exact h.len _ hx
  ·simpa using h.len _ hx
 ·obtain ⟨x,hx,rfl | ⟨-,rfl⟩⟩:=mem_modify hy
  ·exact h.sec _ hx
  ·refine ⟨(h.sec _ hx).1,fun s hs => ?_⟩
   rcases List.mem_or_eq_of_mem_set hs with hs | rfl
   ·exact (h.sec _ hx).2 s hs
   ·exact hb
 ·have hs:∀d',(R.put d a b).size d'=R.size d':=fun d'=>by
   simp only [Rk.size,Rk.put,List.getElem?_modify]
   cases hx:R.ds[d']? with
   | none=>simp
   | some x=>by_cases c:d=d' <;> simp [c]
  rw [hs]
  rcases List.mem_append.1 hw with hw | hw
  ·exact h.ws _ hw
  ·obtain rfl:=List.mem_singleton.1 hw;exact ⟨ha,hb⟩
theorem Rk.Ok.ev {R:Rk}(h:R.Ok){e:Ev}(he:e.ok R):(R.ev e).Ok:=by
 cases e with
 | w d a b =>
  have hp:=h.put he.1 he.2
  simp only [Rk.ev]
  split
  ·exact h
  ·split
   ·exact hp
   ·exact ⟨h.len,h.sec,h.ws⟩
   ·exact ⟨hp.len,hp.sec,hp.ws⟩
 | f d =>
  have bu:=Rk.tC R (.f d)
  simp only [Rk.ev] at bu ⊢
  split
  ·exact h
  ·rename_i hc
   rw [if_neg hc] at bu
   refine ⟨fun y hy => ?_,fun y hy => ?_,fun w hw => ?_⟩
   ·obtain ⟨x,hx,rfl | ⟨-,rfl⟩⟩:=mem_modify hy
    ·exact h.len _ hx
    ·exact ⟨rfl,(h.len _ hx).2⟩
   ·obtain ⟨x,hx,rfl | ⟨-,rfl⟩⟩:=mem_modify hy
    ·exact h.sec _ hx
    ·exact ⟨(h.sec _ hx).2,(h.sec _ hx).2⟩
   ·rw [bu];exact h.ws _ (List.mem_filter.1 hw).1
theorem Rk.abo (R:Rk)(e:Ev):(R.ev e).ws.length<=R.ws.length+1:=by
 cases e with
 | w d a b =>
  simp only [Rk.ev]
  split
  ·omega
  ·split <;> simp [Rk.put]
 | f d =>
  simp only [Rk.ev]
  split
  ·omega
  ·have:=List.length_filter_le (fun w:Wt=>w.d != d) R.ws;simp only;omega
theorem Rk.iL (R:Rk)(l:List Ev):(R.run l).ws.length<=R.ws.length+l.length:=by
 induction l generalizing R with
 | nil=>simp
 | cons e l ih=>have:=ih (R.ev e);have:=R.abo e;rw [Rk.eZ,List.length_cons];omega
def fT (d a:Nat):List eG->List Ev
 | []=>[]
 | b :: l=>.w d a b :: fT d (a+1) l
theorem fu (d a:Nat)(l:List eG):(fT d a l).length=l.length:=by
 induction l generalizing a with
 | nil=>rfl
 | cons b l ih=>simp [fT,ih]
theorem vb (d a:Nat)(l m:List eG):fT d a (l++m)=fT d a l++fT d (a+l.length) m:=by
 induction l generalizing a with
 | nil=>simp [fT]
 | cons b l ih=>simp only [List.cons_append,fT,ih,List.length_cons];rw [show a+1+l.length=a+(l.length+1) by omega]
structure Dq where
 q:Nat
 g1:Nat
 g2:Nat
theorem fU:∀ {l:List eG},(∀s∈l,s.length=128)->l.flatten.length=l.length*128
 | [],_=>rfl
 | s :: l,h=>by
  have h1:=h s (List.mem_cons_self ..)
  have h2:=fU (l:=l) fun t ht=>h t (List.mem_cons_of_mem _ ht)
  rw [List.flatten_cons,List.length_append,h1,h2,List.length_cons];omega
theorem vc:∀ {l:List eG} (_:∀s∈l,s.length=128) (i:Nat),l.flatten.take (i*128)=(l.take i).flatten
 | [],_,i=>by simp
 | s :: l,h,0=>by simp
 | s :: l,h,i+1=>by
  have h1:=h s (List.mem_cons_self ..)
  have h2:=vc (l:=l) (fun t ht=>h t (List.mem_cons_of_mem _ ht)) i
  rw [List.flatten_cons,List.take_succ_cons,List.flatten_cons,List.take_append,h1,List.take_of_length_le oZ,show (i+1)*128 - 128=i*128 by omega,h2]
theorem pP:∀ {l:List eG} (_:∀s∈l,s.length=128) (i:Nat),l.flatten.drop (i*128)=(l.drop i).flatten
 | [],_,i=>by simp
 | s :: l,h,0=>by simp
 | s :: l,h,i+1=>by
  have h1:=h s (List.mem_cons_self ..)
  have h2:=pP (l:=l) (fun t ht=>h t (List.mem_cons_of_mem _ ht)) i
  rw [List.flatten_cons,List.drop_succ_cons,List.drop_append,h1,List.drop_of_length_le oZ,show (i+1)*128 - 128=i*128 by omega,h2,List.nil_append]
theorem TD {l:List eG}(h:∀s∈l,s.length=128){i:Nat}(b:eG)(hi:i<l.length):l.flatten.take (i*128)++b++l.flatten.drop (i*128+128)=(l.set i b).flatten:=by
 rw [vc h,show i*128+128=(i+1)*128 by omega,pP h,List.set_eq_take_append_cons_drop,if_pos hi,List.flatten_append,List.flatten_cons,List.append_assoc]
theorem Gp {l ys:List Value}{n m:Nat}(hl:l.length=m)(h:m<=n):l.take 0++ys.take (min n m)++l.drop (0+min n m)=ys.take m:=by
 rw [Nat.min_eq_right h,List.take_zero,List.nil_append,Nat.zero_add,List.drop_of_length_le (l:=l) oZ,List.append_nil]
def Wt.lay (qs:List Nat)(w:Wt):List Value:=[ptr (qs.getD w.d 0),.int .i64 w.at_]++ak w.b
abbrev wl (qs:List Nat)(ws:List Wt):List Value:=ws.flatMap (Wt.lay qs)
def sY:Option Nat->Int
 | none => -1
 | some n=>n
def Rk.rC (R:Rk)(i a m:Nat):List UInt8:=((((R.ds[i]?).map (·.now)).getD []).drop a |>.take m).flatten
end Go.Sl
namespace Go.Proofs.YteldablklnfblaaGreatDoor
open Go.Sl
set_option maxRecDepth 10000
abbrev dkO (p g1 g2 n:Nat)(f:Bool):Obj:=ax [ptr p,.slice (some ⟨g1,0,none⟩) (n*128) (n*128),.slice (some ⟨g2,0,none⟩) (n*128) (n*128),.bool f] 79
abbrev Mm (vw:Value)(left:Option Nat)(off:Bool)(z:Int)(vd:Value):Obj:=ax [vw,.int .i64 (sY left),.bool off,.int .i64 z,vd] 77
abbrev bO (b:List eG):Obj:=ax (ak b.flatten) 5
abbrev TE (p q g1 g2:Nat)(d:Dk)(T:Chunk):Chunk:=[(q,dkO p g1 g2 d.now.length d.dead)]++([(g1,bO d.fo)]++([(g2,bO d.now)]++T))
def rD (p:Nat):List Dq->List Dk->Chunk
 | x :: xs,d :: ds=>TE p x.q x.g1 x.g2 d (rD p xs ds)
 | _,_=>[]
theorem tD (p:Nat):∀ {xs:List Dq} {ds:List Dk} (xs':List Dq) (ds':List Dk),xs.length=ds.length->rD p (xs++xs') (ds++ds')=rD p xs ds++rD p xs' ds'
 | [],[],_,_,_=>rfl
 | x :: xs,d :: ds,xs',ds',h=>by
  simp only [List.cons_append,rD,tD p (xs:=xs) (ds:=ds) xs' ds' (by simpa using h),List.append_assoc]
def bq (p:Nat)(qs:List Nat)(R:Rk)(C:Chunk):Prop:=∃(xs:List Dq) (vw vd:Value) (Cw Cd:Chunk) (z:Int),xs.map (·.q)=qs/\qs.Nodup/\xs.length=R.ds.length/\R.Ok/\(∀n,R.left=some n->n<4611686018427387904) /\
 az Cw 199 130 vw R.ws.length (wl qs R.ws)/\az Cd 46 1 vd qs.length (qs.map ptr)/\C=[(p,Mm vw R.left R.off z vd)]++(Cw++(Cd++rD p xs R.ds))
theorem bq.ok {p:Nat}{qs:List Nat}{R:Rk}{C:Chunk}(h:bq p qs R C):R.Ok:=by obtain ⟨xs,vw,vd,Cw,Cd,z, -, -, -,h, -⟩:=h;exact h
theorem bq.len {p:Nat}{qs:List Nat}{R:Rk}{C:Chunk}(h:bq p qs R C):qs.length=R.ds.length:=by obtain ⟨xs,vw,vd,Cw,Cd,z,h1, -,h3, -⟩:=h;rw [<-h1,List.length_map,h3]
structure CR (p:Nat)(qs:List Nat)(i q:Nat)(R:Rk)(C:Chunk)(vw vd:Value)(Cw Cd A B:Chunk)(z:Int)(g1 g2:Nat)(pQ qQ:List Dk)(d:Dk):Prop where
 nd:qs.Nodup
 ds:R.ds=pQ++d :: qQ
 at_:pQ.length=i
 ok:R.Ok
 lf:∀n,R.left=some n->n<4611686018427387904
 bw:az Cw 199 130 vw R.ws.length (wl qs R.ws)
 eq:C=[(p,Mm vw R.left R.off z vd)]++(Cw++(Cd++(A++TE p q g1 g2 d B)))
 back:∀ {R':Rk} {vw':Value} {Cw':Chunk} {z':Int} {d':Dk},R'.ds=pQ++d' :: qQ->R'.Ok->(∀n,R'.left=some n->n<4611686018427387904)->az Cw' 199 130 vw' R'.ws.length (wl qs R'.ws)->bq p qs R' ([(p,Mm vw' R'.left R'.off z' vd)]++(Cw'++(Cd++(A++TE p q g1 g2 d' B))))
theorem bq.open {p:Nat}{qs:List Nat}{R:Rk}{C:Chunk}{i q:Nat}(h:bq p qs R C)(hq:qs[i]? = some q):∃vw vd Cw Cd A B z g1 g2 pQ qQ d,CR p qs i q R C vw vd Cw Cd A B z g1 g2 pQ qQ d:=by
 obtain ⟨xs,vw,vd,Cw,Cd,z,hx,hn,hl,aQ,hlf,hw,hd,rfl⟩:=h
 subst hx
 rw [List.getElem?_map] at hq
 cases u7:xs[i]? with
 | none=>rw [u7] at hq;cases hq
 | some x =>
  rw [u7] at hq
  cases hq
  obtain ⟨hi,ym⟩:=List.getElem?_eq_some_iff.1 u7
  have jh:i<R.ds.length:=by omega
  have Wn:xs=xs.take i++x :: xs.drop (i+1):=by rw [<-ym,<-List.drop_eq_getElem_cons,List.take_append_drop]
  have Br:R.ds=R.ds.take i++R.ds[i] :: R.ds.drop (i+1):=by rw [<-List.drop_eq_getElem_cons,List.take_append_drop]
  have TF:∀d',rD p xs (R.ds.take i++d' :: R.ds.drop (i+1))=rD p (xs.take i) (R.ds.take i)++TE p x.q x.g1 x.g2 d' (rD p (xs.drop (i+1)) (R.ds.drop (i+1))):=fun d'=>by
   conv=>lhs;rw [Wn]
   rw [tD p _ _ (by simp;omega)];rfl
  refine ⟨vw,vd,Cw,Cd,_,_,z,x.g1,x.g2,R.ds.take i,R.ds.drop (i+1),R.ds[i],hn,Br,by simp;omega,aQ,hlf,hw,by rw [<-TF,<-Br],fun {R' vw' Cw' z' d'} h1 h2 h3 h4=>⟨xs,vw',vd,Cw',Cd,z',rfl,hn, ?_,h2,h3,h4,hd,by rw [h1,TF]⟩⟩
  rw [hl,h1]
  simp;omega
section
variable {p:Nat}{qs:List Nat}{i q:Nat}{R:Rk}{C:Chunk}{vw vd:Value}{Cw Cd A B:Chunk}{z:Int}{g1 g2:Nat}{pQ qQ:List Dk}{d:Dk}
theorem CR.ix (h:CR p qs i q R C vw vd Cw Cd A B z g1 g2 pQ qQ d):R.ds[i]? = some d:=by rw [h.ds,List.getElem?_append_right (by rw [h.at_];omega),h.at_];simp
theorem CR.size (h:CR p qs i q R C vw vd Cw Cd A B z g1 g2 pQ qQ d):R.size i=d.now.length:=by simp [Rk.size,h.ix]
theorem CR.mem (h:CR p qs i q R C vw vd Cw Cd A B z g1 g2 pQ qQ d):d∈R.ds:=List.mem_of_getElem? h.ix
theorem CR.live (h:CR p qs i q R C vw vd Cw Cd A B z g1 g2 pQ qQ d)(hl:R.live i):d.dead=false:=by simpa [Rk.live,h.ix] using hl
theorem CR.YN (h:CR p qs i q R C vw vd Cw Cd A B z g1 g2 pQ qQ d)(hl:R.live i):C=[(p,Mm vw R.left R.off z vd)]++(Cw++(Cd++(A++([(q,dkO p g1 g2 d.now.length false)]++([(g1,bO d.fo)]++([(g2,bO d.now)]++B)))))):=by rw [<-h.live hl];exact h.eq
theorem CR.same (h:CR p qs i q R C vw vd Cw Cd A B z g1 g2 pQ qQ d):bq p qs R ([(p,Mm vw R.left R.off z vd)]++(Cw++(Cd++(A++TE p q g1 g2 d B)))):=h.back h.ds h.ok h.lf h.bw
theorem CR.rd (h:CR p qs i q R C vw vd Cw Cd A B z g1 g2 pQ qQ d):d.now.length<=8192/\Rd [(g2,bO d.now)] 1 (.slice (some ⟨g2,0,none⟩) (d.now.length*128) (d.now.length*128)) (d.now.length*128) (ak d.now.flatten)/\Rd [(g1,bO d.fo)] 1 (.slice (some ⟨g1,0,none⟩) (d.now.length*128) (d.now.length*128)) (d.now.length*128) (ak d.fo.flatten):=by
 have h1:=h.ok.len d h.mem
 have h2:=h.ok.sec d h.mem
 have e1:=fU h2.1
 have e2:=fU h2.2
 exact ⟨h1.2,av (by rw [ai,e2];omega) (aK _) oZ _,av (by rw [ai,e1];omega) (aK _) oZ _⟩
theorem CR.Wv (h:CR p qs i q R C vw vd Cw Cd A B z g1 g2 pQ qQ d)(hl:R.live i):bq p qs R ([(p,Mm vw R.left R.off z vd)]++(Cw++(Cd++(A++([(q,dkO p g1 g2 d.now.length false)]++([(g1,bO d.fo)]++([(g2,bO d.now)]++B))))))):=by rw [<-h.YN hl,h.eq];exact h.same
end
theorem cQ (p:Nat)(qs:List Nat)(R:Rk)(C:Chunk)(hC:bq p qs R C)(i q:Nat)(hq:qs[i]? = some q):Ct 32 [ptr q] [C] fun u Bs=>u = .int .i64 (R.size i)/\Bs=[C]:=by
 obtain ⟨vw,vd,Cw,Cd,A,B,z,g1,g2,pQ,qQ,d,hO⟩:=hC.open hq
 have h8:=hO.rd.1
 rw [hO.eq,hO.size]
 refine st Tryz.func32 fun w0 => ?_
 refine gs ?_
 refine gz ?_
 exact fin ⟨congrArg _ oZ,rfl⟩ aa
theorem nq (p:Nat)(qs:List Nat)(R:Rk)(C:Chunk)(hC:bq p qs R C)(i q at_ many:Nat)(hq:qs[i]? = some q)(hl:R.live i)(h:at_+many<=R.size i):Ct 121 [ptr q,.int .i64 at_,.int .i64 many] [C] fun u Bs =>
  (R.off=true/\u = .tuple #[.slice none 0 0,.int .i64 5]/\Bs=[C])\/(R.off=false/\∃g,u = .tuple #[.slice (some ⟨g,0,none⟩) (many*128) (many*128),.int .i64 0]/\Bs=[C,[(g,ax (ak (R.rC i at_ many)) 5)]]):=by
 obtain ⟨vw,vd,Cw,Cd,A,B,z,g1,g2,pQ,qQ,d,hO⟩:=hC.open hq
 obtain ⟨h8,hR, -⟩:=hO.rd
 have hs:=hO.ok.sec d hO.mem
 have Ox:=hO.live hl
 rw [hO.size] at h
 have Kp:R.rC i at_ many=((d.now.drop at_).take many).flatten:=by simp [Rk.rC,hO.ix]
 have jH:=fU (l:=(d.now.drop at_).take many) fun s Mn=>hs.2 s (List.mem_of_mem_drop (List.mem_of_mem_take Mn))
 rw [List.length_take,List.length_drop,Nat.min_eq_left oZ] at jH
 rw [hO.YN hl,Kp]
 obtain ⟨rds,rws,rl,off⟩:=R
 refine st Tryz.func121 fun w0 => ?_
 refine gs ?_
 refine ge ?_
 cases off with
 | true =>
  refine gz ?_
  exact fin (.inl ⟨rfl,rfl,rfl⟩) aa
 | false =>
  refine ge ?_
  refine ge ?_
  refine ge ?_
  refine gm ?_;intro g
  have hn:d.now.length*128 - at_*128=(d.now.length - at_)*128:=by omega
  have ou:((ak d.now.flatten).drop (at_*128*1)).take ((d.now.length*128 - at_*128)*1)=ak (d.now.drop at_).flatten:=by
   have e2:=fU (l:=d.now.drop at_) fun s Mn=>hs.2 s (List.mem_of_mem_drop Mn)
   rw [List.length_drop] at e2
   rw [Nat.mul_one,Nat.mul_one,aY,pP hs.2,List.take_of_length_le (by rw [ai,e2];omega)]
  refine gw ?_;intro ad kD
  have zV:(List.replicate (many*128) (Value.int .u8 0)).take 0++(ak (d.now.drop at_).flatten).take (min ((d.now.length - at_)*128) (many*128))++(List.replicate (many*128) (Value.int .u8 0)).drop (0+min ((d.now.length - at_)*128) (many*128))=ak ((d.now.drop at_).take many).flatten:=by
   rw [Gp (by simp) oZ,aL,vc (fun s Mn=>hs.2 s (List.mem_of_mem_drop Mn))]
  refine gy ?_
  refine gz ?_
  exact fin (.inr ⟨rfl,g,rfl,rfl⟩) aa
end Go.Proofs.YteldablklnfblaaGreatDoor
namespace Go.Sl
theorem YO {d a:Nat}{ss:List eG}{j:Nat}{s:eG}(h:ss[j]? = some s):fT d a (ss.take (j+1))=fT d a (ss.take j)++[.w d (a+j) s]/\fT d a ss=fT d a (ss.take (j+1))++fT d (a+(j+1)) (ss.drop (j+1)):=by
 obtain ⟨hj,rfl⟩:=List.getElem?_eq_some_iff.1 h
 constructor
 ·rw [List.take_succ_eq_append_getElem hj,vb,List.length_take,Nat.min_eq_left oZ];rfl
 ·conv=>lhs;rw [<-List.take_append_drop (j+1) ss]
  rw [vb,List.length_take,Nat.min_eq_left oZ]
theorem ve {α:Type}{A B:List α}{x:α}{g:α->α}{i:Nat}(h:A.length=i):(A++x :: B).modify i g=A++g x :: B:=by
 subst h
 induction A with
 | nil=>rfl
 | cons a A ih=>simp [ih]
theorem Wt.aj (qs:List Nat){w:Wt}(h:w.b.length=128):(w.lay qs).length=130:=by simp [Wt.lay,ai,h]
theorem Wt.bC (qs:List Nat)(w:Wt):∀u∈w.lay qs,u.oneCell'=true:=fun u hu=>by
 rcases List.mem_append.1 hu with h | h
 ·simp at h;rcases h with rfl | rfl <;> rfl
 ·exact aK _ u h
theorem IC (qs:List Nat)(ws:List Wt)(w:Wt):wl qs ws++w.lay qs=wl qs (ws++[w]):=by simp [wl]
theorem abp (q a:Nat)(qs:List Nat){i:Nat}(hq:qs[i]? = some q){ys:List UInt8}{n:Nat}(hn:128<=n)(hy:n<=ys.length) :
  ([ptr q,.int .i64 a]++List.replicate 128 (.int .u8 0):List Value).take 2++(ak ys).take (min n 128)++([ptr q,.int .i64 a]++List.replicate 128 (.int .u8 0):List Value).drop (2+min n 128)=Wt.lay qs ⟨i,a,ys.take 128⟩:=by
 have _:=hy
 rw [Nat.min_eq_right hn,show ([ptr q,.int .i64 a]++List.replicate 128 (.int .u8 0):List Value).take 2=[ptr q,.int .i64 a] from rfl,aL,show ([ptr q,.int .i64 a]++List.replicate 128 (.int .u8 0):List Value).drop (2+128)=[] from rfl,List.append_nil,Wt.lay]
 simp [List.getD,hq]
end Go.Sl
namespace Go.Proofs.YteldablklnfblaaGreatDoor
open Go.Sl
set_option maxRecDepth 10000
theorem kJ (p:Nat)(qs:List Nat)(R:Rk)(C:Chunk)(hC:bq p qs R C)(i q at_ m:Nat)(ss:List eG)(O:Chunk)(ad:Option Addr)(c:Nat)(hq:qs[i]? = some q)(hl:R.live i)(ID:∀s∈ss,s.length=128)(hm:ss.length=m)(h:at_+m<=R.size i)
  (hO:Rd O 1 (.slice ad (m*128) c) (m*128) (ak ss.flatten)) (hc:m*128<=c) (hw:R.ws.length+m<=900000000000):Ct 81 [ptr q,.int .i64 at_,.slice ad (m*128) c] [C,O] fun u Bs =>
  ∃C',u = .int .i64 (if (R.run (fT i at_ ss)).off then 5 else 0)/\bq p qs (R.run (fT i at_ ss)) C'/\Bs=[C',O]:=by
 subst hm
 have nI:=hC.ok
 cases ho:R.off with
 | true =>
  rw [Rk.jV ho]
  obtain ⟨vw,vd,Cw,Cd,A,B,z,g1,g2,pQ,qQ,d,hX⟩:=hC.open hq
  rw [hX.YN hl,ho]
  have hb:=hX.Wv hl
  rw [ho] at hb
  refine st Tryz.func81 fun w0 => ?_
  refine gs ?_
  refine ge ?_
  refine gz ?_
  exact fin ⟨_,rfl,hb,rfl⟩ aa
 | false =>
 obtain ⟨vw,vd,Cw,Cd,A,B,z,g1,g2,pQ,qQ,d,hX⟩:=hC.open hq
 obtain ⟨h8, -, -⟩:=hX.rd
 have Ox:=hX.live hl
 have Br:R.ds=pQ++⟨d.fo,d.now,false⟩ :: qQ:=by rw [hX.ds,<-Ox]
 rw [hX.size] at h
 rw [hX.YN hl,ho]
 refine st Tryz.func81 fun w0 => ?_
 refine gs ?_
 refine ge ?_
 refine ge ?_
 refine ge ?_
 refine ge ?_
 refine gl [0,1,2,29,31] (fun ((j,_):Nat×Rk×Value×Chunk×Int×List eG)=>[(32,.int .i64 j)]) (fun (_,R',vw,Cw,z,nw)=>[[(p,Mm vw R'.left false z vd)],Cw,[(g2,bO nw)]])
  (fun (j,R',vw,Cw,z,nw)=>j<=ss.length/\R.run (fT i at_ (ss.take j))=R'/\R'.off=false/\R'.ds=pQ++⟨d.fo,nw,false⟩ :: qQ/\nw.length=d.now.length/\R'.Ok/\(∀n,R'.left=some n->n<4611686018427387904)/\R'.ws.length<=R.ws.length+j/\az Cw 199 130 vw R'.ws.length (wl qs R'.ws))
  (fun (j,_)=>ss.length - j) (0,R,vw,Cw,z,d.now) ⟨Nat.zero_le _,rfl,ho,Br,rfl,nI,hX.lf,by omega,hX.bw⟩ ?_
 rintro ⟨j,R',vw,Cw,z,nw⟩ ⟨hj,dC,dI,Oy,Mo,sZ,YP,Gb,hBw⟩
 have hd':d=⟨d.fo,d.now,false⟩:=by rw [<-Ox]
 refine gi ?_ ?_ <;> intro bo
 ·have pj:j<ss.length:=by omega
  obtain ⟨s,hs⟩:=eB pj
  have fH:=ID s (List.mem_of_getElem? hs)
  obtain ⟨R7,MN⟩:=YO (d:=i) (a:=at_) hs
  have hev:R.run (fT i at_ (ss.take (j+1)))=R'.ev (.w i (at_+j) s):=by rw [R7,Rk.jv,dC];rfl
  have bL:(R'.put i (at_+j) s).ds=pQ++⟨d.fo,nw.set (at_+j) s,false⟩ :: qQ:=by
   simp only [Rk.put,Oy];rw [ve hX.at_]
  have q9:(⟨d.fo,nw,false⟩:Dk)∈R'.ds:=by rw [Oy];simp
  have vg:∀t∈nw,t.length=128:=(sZ.sec _ q9).2
  have bu:R'.size i=nw.length:=by
   simp only [Rk.size,Oy];rw [List.getElem?_append_right (by rw [hX.at_];omega),hX.at_];simp
  have YQ:(R'.put i (at_+j) s).Ok:=sZ.put (by rw [bu];omega) fH
  by_cases h0:R'.left=some 0
  ·have nK:R.run (fT i at_ ss)={ R' with off:=true,left:=none }:=by
    rw [MN,Rk.jv,hev,show R'.ev (.w i (at_+j) s)={ R' with off:=true,left:=none } by simp [Rk.ev,dI,h0],Rk.jV rfl]
   rw [h0]
   refine gz ?_
   rw [nK]
   exact fin ⟨_,rfl,hX.back (R':={ R' with off:=true,left:=none }) (vw':=vw) (Cw':=Cw) (z':=z) (d':=⟨d.fo,nw,false⟩) Oy ⟨sZ.len,sZ.sec,sZ.ws⟩ (fun n hn=>by cases hn) hBw,rfl⟩ (by rw [<-Mo];exact aa)
  ·obtain ⟨l',lW,xA,adu⟩:∃l',(if 0<sY R'.left then sY R'.left - 1 else sY R'.left)=sY l'/\(∀n,l'=some n->n<4611686018427387904)/\R'.ev (.w i (at_+j) s)={ R'.put i (at_+j) s with left:=l' }:=by
    cases hle:R'.left with
    | none=>exact ⟨none,rfl,(fun n hn=>by cases hn),by simp [Rk.ev,dI,hle,Rk.put]⟩
    | some n =>
     cases n with
     | zero=>exact absurd hle h0
     | succ n=>exact ⟨some n,by simp only [sY];omega,(fun k hk=>by cases hk;have:=YP _ hle;omega),by simp [Rk.ev,dI,hle]⟩
   have Km:sY R'.left≠0:=by
    cases hle:R'.left with
    | none=>decide
    | some n=>simp only [sY];intro q0;exact h0 (by rw [hle];congr 1;omega)
   have Kq:sY R'.left<4611686018427387904 /\ -1<=sY R'.left:=by
    cases hle:R'.left with
    | none=>decide
    | some n=>have:=YP n hle;simp only [sY];omega
   have Bo:(ss.length*128 - j*128)=(ss.length - j)*128:=by omega
   have s7:=fU (l:=ss.drop j) fun t ht=>ID t (List.mem_of_mem_drop ht)
   rw [List.length_drop] at s7
   have ou:((ak ss.flatten).drop (j*128*1)).take ((ss.length*128 - j*128)*1)=ak (ss.drop j).flatten:=by
    rw [Nat.mul_one,Nat.mul_one,aY,pP ID,List.take_of_length_le (by rw [ai,s7];omega)]
   have zV:=abp q (at_+j) qs hq (ys:=(ss.drop j).flatten) (n:=(ss.length - j)*128) oZ oZ
   have hsj:(ss.drop j).flatten.take 128=s:=by
    obtain ⟨_,rfl⟩:=List.getElem?_eq_some_iff.1 hs
    rw [List.drop_eq_getElem_cons pj,List.flatten_cons,List.take_left' fH]
   rw [hsj] at zV
   have pR:=Wt.aj qs (w:=⟨i,at_+j,s⟩) fH
   have fG:=Wt.bC qs ⟨i,at_+j,s⟩
   have fm:=TD vg s (i:=at_+j) (show at_+j<nw.length by omega)
   have hrs:(R'.put i (at_+j) s).ws.length<=R.ws.length+(j+1):=by simp [Rk.put];omega
   have jH:=fU vg
   have hn8:(at_+j+1)*128 - (at_+j)*128=128:=by omega
   have afl:(ak nw.flatten).take ((at_+j)*128)++(ak s).take (min 128 128)++(ak nw.flatten).drop ((at_+j)*128+min 128 128)=ak (nw.set (at_+j) s).flatten:=by
    rw [Nat.min_self,aL,aY,aL,<-aE,<-aE,List.take_of_length_le (l:=s) oZ,fm]
   have nK:∀(v3:Value) (C3:Chunk) (z':Int),az C3 199 130 v3 (R'.ws.length+1) (wl qs (R'.ws++[(⟨i,at_+j,s⟩:Wt)]))->j+1<=ss.length/\R.run (fT i at_ (ss.take (j+1)))={ R'.put i (at_+j) s with left:=l' }/\({ R'.put i (at_+j) s with left:=l' }:Rk).off=false/\({ R'.put i (at_+j) s with left:=l' }:Rk).ds=pQ++⟨d.fo,nw.set (at_+j) s,false⟩ :: qQ/\(nw.set (at_+j) s).length=d.now.length/\({ R'.put i (at_+j) s with left:=l' }:Rk).Ok/\(∀n,l'=some n->n<4611686018427387904)/\(R'.ws++[(⟨i,at_+j,s⟩:Wt)]).length<=R.ws.length+(j+1)/\az C3 199 130 v3 (R'.ws++[(⟨i,at_+j,s⟩:Wt)]).length (wl qs (R'.ws++[(⟨i,at_+j,s⟩:Wt)])):=fun v3 C3 z' hb =>
    ⟨by omega,by rw [hev,adu],dI,bL,by rw [List.length_set];exact Mo,⟨YQ.len,YQ.sec,YQ.ws⟩,xA,hrs,by rw [List.length_append];exact hb⟩
   rcases Int.lt_or_le 0 (sY R'.left) with JG | JG
   ·rw [if_pos JG] at lW
    refine ga ?_;intro bw
    have hrp:Rd [(bw,ax (Wt.lay qs ⟨i,at_+j,s⟩) 199)] 1 (.slice (some ⟨bw,2,none⟩) 128 128) 128 (ak s):=by
     have:=tu (g:=bw) (T:=199) (m:=128) [ptr (qs.getD i 0),.int .i64 (at_+j:Nat)] (ak s) [] (by rw [ai,fH]) (aK s) oZ 128
     rwa [List.append_nil] at this
    refine gw ?_;intro ad2 kD
    refine gy ?_
    refine gd [2,4,8,12,16,20,25,31,34,38,43] ?_
    refine gm ?_;intro b5
    have Ww:Rd [(b5,ax (Wt.lay qs ⟨i,at_+j,s⟩) 199)] 130 (.slice (some ⟨b5,0,none⟩) 1 1) 1 (Wt.lay qs ⟨i,at_+j,s⟩):=av (by rw [pR]) fG oZ _
    refine gp ?_;intro fL c3 C3 km
    rw [IC] at km
    refine gd [0,4,8,12,16,20,24,28,36,40,33,47] ?_
    refine ge ?_
    refine gv ?_
    refine gy ?_
    refine gn ?_
    rw [lW]
    exact ⟨(j+1,{ R'.put i (at_+j) s with left:=l' },_,C3,_,nw.set (at_+j) s),nK _ C3 (IntKind.i64.wrap (z+1)) km,by simp only;omega,aq,_,aa⟩
   ·rw [if_neg oZ] at lW
    refine ga ?_;intro bw
    have hrp:Rd [(bw,ax (Wt.lay qs ⟨i,at_+j,s⟩) 199)] 1 (.slice (some ⟨bw,2,none⟩) 128 128) 128 (ak s):=by
     have:=tu (g:=bw) (T:=199) (m:=128) [ptr (qs.getD i 0),.int .i64 (at_+j:Nat)] (ak s) [] (by rw [ai,fH]) (aK s) oZ 128
     rwa [List.append_nil] at this
    refine gw ?_;intro ad2 kD
    refine gy ?_
    refine gd [2,4,8,12,16,20,25,31,34,38,43] ?_
    refine gm ?_;intro b5
    have Ww:Rd [(b5,ax (Wt.lay qs ⟨i,at_+j,s⟩) 199)] 130 (.slice (some ⟨b5,0,none⟩) 1 1) 1 (Wt.lay qs ⟨i,at_+j,s⟩):=av (by rw [pR]) fG oZ _
    refine gp ?_;intro fL c3 C3 km
    rw [IC] at km
    refine gd [0,4,8,12,16,20,24,28,36,40,33,47] ?_
    refine ge ?_
    refine gv ?_
    refine gy ?_
    refine gn ?_
    rw [lW]
    exact ⟨(j+1,{ R'.put i (at_+j) s with left:=l' },_,C3,_,nw.set (at_+j) s),nK _ C3 (IntKind.i64.wrap (z+1)) km,by simp only;omega,aq,_,aa⟩
 ·obtain rfl:j=ss.length:=by omega
  rw [List.take_length] at dC
  refine gz ?_
  rw [dC,dI]
  exact fin ⟨_,rfl,by have:=hX.back (R':=R') (vw':=vw) (Cw':=Cw) (z':=z) (d':=⟨d.fo,nw,false⟩) Oy sZ YP hBw;rw [dI] at this;exact this,rfl⟩ (by rw [<-Mo];exact aa)
end Go.Proofs.YteldablklnfblaaGreatDoor
namespace Go.Sl
def out (i:Nat)(ws:List Wt):List Wt:=ws.filter fun w=>w.d != i
theorem CT {i:Nat}{ws:List Wt}{j:Nat}{w:Wt}(h:ws[j]? = some w):out i (ws.take (j+1))=out i (ws.take j)++(if w.d=i then [] else [w]):=by
 obtain ⟨hj,rfl⟩:=List.getElem?_eq_some_iff.1 h
 rw [List.take_succ_eq_append_getElem hj,out,out,List.filter_append]
 by_cases c:ws[j].d=i <;> simp [c]
theorem Gq (i:Nat)(ws:List Wt)(j:Nat):(out i (ws.take j)).length<=j:=Nat.le_trans (List.length_filter_le ..) (by simp;omega)
theorem zW (qs:List Nat):∀ {ws:List Wt},(∀w∈ws,w.b.length=128)->(wl qs ws).length=ws.length*130
 | [],_=>rfl
 | w :: ws,h=>by
  have h1:=Wt.aj qs (h w (List.mem_cons_self ..))
  have h2:=zW qs (ws:=ws) fun t ht=>h t (List.mem_cons_of_mem _ ht)
  rw [wl,List.flatMap_cons,List.length_append,h1,List.length_cons]
  rw [wl] at h2;omega
theorem Oz (qs:List Nat){ws:List Wt}(h:∀w∈ws,w.b.length=128){j:Nat}{w:Wt}(hj:ws[j]? = some w):Sub (j*130) (w.lay qs) (wl qs ws):=by
 induction ws generalizing j with
 | nil=>cases hj
 | cons x l ih =>
  have hx:=Wt.aj qs (h x (List.mem_cons_self ..))
  intro k u hu
  cases j with
  | zero =>
   cases hj
   rw [Nat.zero_mul,Nat.zero_add,wl,List.flatMap_cons,List.getElem?_append_left (List.getElem?_eq_some_iff.1 hu).1];exact hu
  | succ j =>
   rw [wl,List.flatMap_cons,List.getElem?_append_right (by rw [hx];omega),hx,show (j+1)*130+k - 130=j*130+k by omega]
   exact ih (fun t ht=>h t (List.mem_cons_of_mem _ ht)) hj k u hu
structure Dr (qs:List Nat)(i:Nat)(ws:List Wt)(l0 l:List Value)(j:Nat):Prop where
 len:l.length=l0.length
 hd:l.take ((out i (ws.take j)).length*130)=wl qs (out i (ws.take j))
 tl:l.drop (j*130)=l0.drop (j*130)
theorem Dr.sub {qs:List Nat}{i:Nat}{ws:List Wt}{r l:List Value}{j:Nat}{w:Wt}(h:Dr qs i ws (wl qs ws++r) l j)(hb:∀w∈ws,w.b.length=128)(hj:ws[j]? = some w):Sub (j*130) (w.lay qs) l:=fun k u hu=>by
 have h1:=Oz qs hb hj k u hu
 have h2:(l.drop (j*130))[k]? = ((wl qs ws++r).drop (j*130))[k]?:=by rw [h.tl]
 rw [List.getElem?_drop,List.getElem?_drop,List.getElem?_append_left (List.getElem?_eq_some_iff.1 h1).1,h1] at h2
 exact h2
theorem Dr.put {qs:List Nat}{i:Nat}{ws:List Wt}{l0 l:List Value}{j:Nat}{w:Wt}(h:Dr qs i ws l0 l j)(hw:w.b.length=128)(hj:ws[j]? = some w)(eL:w.d≠i)(hl:(j+1)*130<=l.length) :
  (out i (ws.take (j+1))).length=(out i (ws.take j)).length+1/\Dr qs i ws l0 (l.take ((out i (ws.take j)).length*130)++w.lay qs++l.drop (((out i (ws.take j)).length+1)*130)) (j+1):=by
 have h1:=CT (i:=i) hj
 rw [if_neg eL] at h1
 have hk:=Gq i ws j
 have h2:=Wt.aj qs hw
 have h3:(out i (ws.take (j+1))).length=(out i (ws.take j)).length+1:=by rw [h1];simp
 have ht:(l.take ((out i (ws.take j)).length*130)++w.lay qs).length=((out i (ws.take j)).length+1)*130:=by rw [List.length_append,List.length_take,h2];omega
 refine ⟨h3, ?_, ?_, ?_⟩
 ·rw [List.length_append,ht,List.length_drop,<-h.len];omega
 ·rw [h3,List.take_left' ht,h.hd,h1,wl,wl,List.flatMap_append];simp
 ·rw [List.drop_append,ht,List.drop_of_length_le (by rw [ht];omega),List.nil_append,List.drop_drop,show ((out i (ws.take j)).length+1)*130+((j+1)*130 - ((out i (ws.take j)).length+1)*130)=j*130+130 by omega,<-List.drop_drop,h.tl,List.drop_drop]
  congr 1;omega
theorem Dr.skip {qs:List Nat}{i:Nat}{ws:List Wt}{l0 l:List Value}{j:Nat}{w:Wt}(h:Dr qs i ws l0 l j)(hj:ws[j]? = some w)(he:w.d=i):(out i (ws.take (j+1))).length=(out i (ws.take j)).length/\Dr qs i ws l0 l (j+1):=by
 have h1:=CT (i:=i) hj
 rw [if_pos he,List.append_nil] at h1
 refine ⟨by rw [h1],h.len,by rw [h1];exact h.hd, ?_⟩
 rw [show (j+1)*130=j*130+130 by omega,<-List.drop_drop,h.tl,List.drop_drop]
end Go.Sl
namespace Go.Proofs.YteldablklnfblaaGreatDoor
open Go.Sl
set_option maxRecDepth 10000
theorem tE (p:Nat):∀ {xs:List Dq} {ds:List Dk} {x:Dq},xs.length=ds.length->x∈xs->JW (rD p xs ds) x.q
 | y :: xs,d :: ds,x,h,hx=>by
  rcases List.mem_cons.1 hx with rfl | hx
  ·exact ⟨_,_,List.mem_cons_self ..⟩
  ·obtain ⟨l,T,hm⟩:=tE p (xs:=xs) (ds:=ds) (by simpa using h) hx
   exact ⟨l,T,by simp only [rD,TE];simp [hm]⟩
theorem TG (p:Nat)(qs:List Nat)(R:Rk)(C:Chunk)(hC:bq p qs R C)(i q:Nat)(hq:qs[i]? = some q):Ct 137 [ptr p,ptr q] [C] fun _ Bs=>∃C',bq p qs { R with ws:=out i R.ws } C'/\Bs=[C']:=by
 obtain ⟨xs,vw,vd,Cw,Cd,z,hx,hn,hl,aQ,hlf,hw,hd,rfl⟩:=hC
 obtain ⟨D,hD⟩:∃D,D=rD p xs R.ds:=⟨_,rfl⟩
 have hpb:∀a b qa qb,qs[a]? = some qa->qs[b]? = some qb->PB D qa qb:=fun a b qa qb ha hb=>by
  refine .inr ⟨?_, ?_⟩
  ·have:=List.mem_of_getElem? ha;rw [<-hx] at this;obtain ⟨x,CQ,rfl⟩:=List.mem_map.1 this;rw [hD];exact tE p hl CQ
  ·have:=List.mem_of_getElem? hb;rw [<-hx] at this;obtain ⟨x,CQ,rfl⟩:=List.mem_map.1 this;rw [hD];exact tE p hl CQ
 have adw:({ R with ws:=out i R.ws }:Rk).Ok:=⟨aQ.len,aQ.sec,fun w hw=>aQ.ws w (List.mem_filter.1 hw).1⟩
 have back:∀ {vw' Cw'},az Cw' 199 130 vw' (out i R.ws).length (wl qs (out i R.ws))->bq p qs { R with ws:=out i R.ws } ([(p,Mm vw' R.left R.off z vd)]++(Cw'++(Cd++D))):=fun {vw' Cw'} hb=>⟨xs,vw',vd,Cw',Cd,z,hx,hn,hl,adw,hlf,hb,hd,by rw [hD]⟩
 rw [<-hD]
 rcases hw.2.2 with ⟨rfl,h0,rfl⟩ | ⟨g,c,r,rfl,rfl,hc,lV,hlen⟩
 ·have yo:=List.eq_nil_of_length_eq_zero h0
  rw [h0] at *
  refine st Tryz.func137 fun w0 => ?_
  refine gs ?_
  refine gl [0,1,4,14,16] (fun i:Nat=>[(17,.int .i64 i)]) (fun _=>[]) (fun i=>i<=0) (fun _=>0) 0 (Nat.le_refl _) ?_
  intro j hj
  refine gz ?_
  exact fin ⟨_,back (vw':=.slice none 0 0) (Cw':=[]) (by rw [yo];exact az.nil _ _),rfl⟩ aa
 ·have OA:∀w∈R.ws,w.b.length=128:=fun w hw=>(aQ.ws w hw).2
  have afG:=zW qs OA
  simp only [maxLen] at lV
  refine st Tryz.func137 fun w0 => ?_
  refine gs ?_
  refine gv ?_
  refine gl [0,1,15,16] (fun ((j,_):Nat×List Value)=>[(17,.int .i64 j),(4,.slice (some ⟨g,0,none⟩) (out i (R.ws.take j)).length c)]) (fun (_,l)=>[[(g,ax l 199)]]) (fun (j,l)=>j<=R.ws.length/\Dr qs i R.ws (wl qs R.ws++r) l j) (fun (j,_)=>R.ws.length - j) (0,wl qs R.ws++r) ⟨Nat.zero_le _,rfl,by simp [out],rfl⟩ ?_
  rintro ⟨j,l⟩ ⟨hj,jw⟩
  have iM:l.length=c*130:=by rw [jw.len,<-hlen];simp
  have hkj:=Gq i R.ws j
  refine gi ?_ ?_ <;> intro bo
  ·obtain ⟨w,YR⟩:=eB (show j<R.ws.length by omega)
   have OB:=List.mem_of_getElem? YR
   have iY:=jw.sub OA YR
   have pR:=Wt.aj qs (OA w OB)
   have fG:=Wt.bC qs w
   have j9:w.d<qs.length:=by
    have h1:=(aQ.ws w OB).1
    rcases Nat.lt_or_ge w.d R.ds.length with h2 | h2
    ·rw [<-hx,List.length_map,hl];exact h2
    ·simp [Rk.size,h2] at h1
   have hqw:qs[w.d]? = some (qs.getD w.d 0):=by simp [List.getD,j9]
   have hP:=hpb w.d i _ q hqw hq
   refine ga ?_;intro b6
   refine gi ?_ ?_ <;> intro eL
   ·have ady:w.d≠i:=fun e=>by
     have h1:qs.getD w.d 0=q:=by simp [List.getD,e,hq]
     simp only [h1] at eL;simp at eL
    obtain ⟨h3,eo⟩:=jw.put (OA w OB) YR ady oZ
    refine gm ?_;intro b7
    have Ww:Rd [(b7,ax (w.lay qs) 199)] 130 (.slice (some ⟨b7,0,none⟩) 1 1) 1 (w.lay qs):=av (by rw [pR]) fG oZ _
    refine gpi ?_
    refine gn ?_
    exact ⟨(j+1,_),⟨by omega,eo⟩,by simp only;omega,by simp only [h3];exact aq,_,aa⟩
   ·have he:w.d=i:=by
     have h1:qs.getD w.d 0=q:=by simpa using eL
     have h2:qs[w.d]? = qs[i]?:=by rw [hqw,hq,h1]
     exact (List.getElem?_inj j9 hn).1 h2
    obtain ⟨h3,eo⟩:=jw.skip YR he
    refine gn ?_
    exact ⟨(j+1,l),⟨by omega,eo⟩,by simp only;omega,by simp only [h3];exact aq,_,aa⟩
  ·obtain rfl:j=R.ws.length:=by omega
   rw [List.take_length] at *
   have hh:=jw.hd
   rw [List.take_length] at hh
   have hO:=Gq i R.ws R.ws.length
   rw [List.take_length] at hO
   refine gz ?_
   refine fin ⟨_,back (vw':=.slice (some ⟨g,0,none⟩) (out i R.ws).length c) (Cw':=[(g,ax l 199)]) ⟨zW qs fun w hw=>OA w (List.mem_filter.1 hw).1,fun u hu => ?_,.inr ⟨g,c,l.drop ((out i R.ws).length*130),rfl,by rw [<-hh,List.take_append_drop],by omega,by simp only [maxLen];omega, ?_⟩⟩,rfl⟩ aa
   ·obtain ⟨w,hw,hu⟩:=List.mem_flatMap.1 hu;exact Wt.bC qs w u hu
   ·rw [zW qs (ws:=out i R.ws) fun w hw=>OA w (List.mem_filter.1 hw).1,List.length_drop,iM];omega
theorem CU (p:Nat)(qs:List Nat)(R:Rk)(C:Chunk)(hC:bq p qs R C)(i q:Nat)(hq:qs[i]? = some q)(hl:R.live i):Ct 85 [ptr q] [C] fun u Bs=>∃C',u = .int .i64 (if (R.ev (.f i)).off then 5 else 0)/\bq p qs (R.ev (.f i)) C'/\Bs=[C']:=by
 obtain ⟨vw,vd,Cw,Cd,A,B,z,g1,g2,pQ,qQ,d,hO⟩:=hC.open hq
 obtain ⟨h8,hR, -⟩:=hO.rd
 have hs:=hO.ok.sec d hO.mem
 have xA:=hO.ok.len d hO.mem
 have e1:=fU hs.1
 have e2:=fU hs.2
 have Ox:=hO.live hl
 have hb:=hO.Wv hl
 cases ho:R.off with
 | true =>
  rw [Rk.Ow ho,hO.YN hl,ho]
  rw [ho] at hb
  refine st Tryz.func85 fun w0 => ?_
  refine gs ?_
  refine ge ?_
  refine gz ?_
  exact fin ⟨_,by rw [if_pos rfl],hb,rfl⟩ aa
 | false =>
  have sZ:(R.ev (.f i)).Ok:=hO.ok.ev (e:=.f i) trivial
  have hev:R.ev (.f i)={ ({ R with ds:=pQ++⟨d.now,d.now,false⟩ :: qQ }:Rk) with ws:=out i R.ws }:=by simp only [Rk.ev,ho,hO.ds];rw [ve hO.at_];simp [out,Ox]
  have adA:({ R with ds:=pQ++⟨d.now,d.now,false⟩ :: qQ }:Rk).Ok:=by
   rw [hev] at sZ
   refine ⟨sZ.len,sZ.sec,fun w hw => ?_⟩
   have h1:=hO.ok.ws w hw
   have h2:=Rk.tC R (.f i) w.d
   rw [hev] at h2
   exact ⟨by have:({ R with ds:=pQ++⟨d.now,d.now,false⟩ :: qQ }:Rk).size w.d=R.size w.d:=h2;omega,h1.2⟩
  have CV:=hO.back (R':={ R with ds:=pQ++⟨d.now,d.now,false⟩ :: qQ }) (z':=z) (d':=⟨d.now,d.now,false⟩) rfl adA hO.lf hO.bw
  rw [hev,hO.YN hl]
  simp only [ho]
  simp only [ho] at CV
  have zV:(ak d.fo.flatten).take 0++(ak d.now.flatten).take (min (d.now.length*128) (d.now.length*128))++(ak d.fo.flatten).drop (0+min (d.now.length*128) (d.now.length*128))=ak d.now.flatten:=by
   rw [Gp (by rw [ai,e1,xA.1]) (Nat.le_refl _),List.take_of_length_le (by rw [ai,e2];omega)]
  refine st Tryz.func85 fun w0 => ?_
  refine gs ?_
  refine ge ?_
  refine gy ?_
  refine gc (TG p qs _ _ CV i q hq) ?_
  rintro _ _ ⟨C',bA,rfl⟩
  refine gz ?_
  exact fin ⟨_,rfl,bA,rfl⟩ aa
end Go.Proofs.YteldablklnfblaaGreatDoor
namespace Go.Sl
def upto (f:Nat->List Ev):Nat->List Ev
 | 0=>[]
 | k+1=>upto f k++f k
theorem dP (R:Rk)(f:Nat->List Ev)(k:Nat):R.run (upto f (k+1))=(R.run (upto f k)).run (f k):=Rk.jv ..
theorem jx {R:Rk}{f:Nat->List Ev}{k m:Nat}(h:(R.run (upto f k)).off=true)(hm:k<=m):R.run (upto f m)=R.run (upto f k):=by
 induction m with
 | zero =>
  obtain rfl:k=0:=by omega
  rfl
 | succ m ih =>
  rcases Nat.lt_or_ge m k with c | c
  ·obtain rfl:k=m+1:=by omega
   rfl
  ·rw [dP,ih c,Rk.jV h]
theorem cV {f:Nat->List Ev}{c:Nat}(h:∀k,(f k).length<=c)(m:Nat):(upto f m).length<=m*c:=by
 induction m with
 | zero=>simp [upto]
 | succ m ih=>have:=h m;rw [upto,List.length_append,Nat.succ_mul];omega
def fC (n:Nat):Nat->Nat
 | 0=>0
 | 1=>9
 | 2=>n - 18
 | _=>n - 9
theorem zX {n k:Nat}(h:324<=n):fC n k+9<=n:=by
 unfold fC;split <;> omega
theorem zY (n:Nat){k:Nat}(h:k<4):([.int .i64 0,.int .i64 9,.int .i64 ((n - 18:Nat):Int),.int .i64 ((n - 9:Nat):Int)]:List Value)[k]? = some (.int .i64 (fC n k)):=by
 rcases (show k=0\/k=1\/k=2\/k=3 by omega) with rfl | rfl | rfl | rfl <;> rfl
def jW (n i:Nat)(u:Ub)(k:Nat):List Ev:=fT i (fC n k+1+u.txg % 8) [whole (kE u)]
def bU (no:Nat)(b:List UInt8):List UInt8:=ae no 8++b
def iZ (no:Nat)(b:List UInt8):eG:=J8 (aF (bU no b))++bU no b
theorem CX {no:Nat}{b:List UInt8}(h:b.length=88):(bU no b).length=96:=by simp [bU,af,h]
theorem OC {no:Nat}{b:List UInt8}(h:b.length=88):(iZ no b).length=128:=by simp [iZ,ly,CX h]
def fv (s:eG):Nat:=nm s 32 8
def gB (s:eG):Bool:=decide (mD s 0=aF (s.drop 32))&&decide (1<=fv s/\fv s<=281474976710656)
def Ks (s:eG):List UInt8:=(s.drop 40).take 88
theorem zZ {s:eG}(h:s.length=128):(Ks s).length=88:=by simp [Ks,h]
theorem kK {R:Rk}(hR:R.Ok){i a:Nat}(h:a<R.size i):R.rC i a 1=R.now i a/\(R.now i a).length=128:=by
 unfold Rk.rC Rk.now Rk.size at *
 cases hd:R.ds[i]? with
 | none=>rw [hd] at h;simp at h
 | some d =>
  rw [hd] at h
  simp only [Option.map_some,Option.getD_some] at h
  have h2:=(hR.sec d (List.mem_of_getElem? hd)).2
  have ha:d.now[a]? = some d.now[a]:=List.getElem?_eq_getElem h
  simp only [Option.map_some,Option.getD_some,Option.bind_some,ha]
  exact ⟨by rw [List.drop_eq_getElem_cons h,List.take_succ_cons,List.take_zero,List.flatten_cons,List.flatten_nil,List.append_nil],h2 _ (List.getElem_mem h)⟩
end Go.Sl
namespace Go.Proofs.YteldablklnfblaaGreatDoor
open Go.Sl
set_option maxRecDepth 10000
set_option maxHeartbeats 4000000
abbrev Wx (q:Nat)(l:eU)(v:Value)(z1 z2 z3:Int):Obj:=ax [ptr q,.int .u64 l.pool,v,.int .i64 l.top,.int .i64 l.place,.int .i64 z1,.int .i64 z2,.int .i64 z3] 166
def OD (a q:Nat)(l:eU)(L:Chunk):Prop:=∃ad c D z1 z2 z3,az D 23 3 (.slice ad l.aJ.length c) l.aJ.length (l.aJ.flatMap Tp.lay)/\L=[(a,Wx q l (.slice ad l.aJ.length c) z1 z2 z3)]++D
theorem pS (p:Nat)(qs:List Nat)(R:Rk)(C:Chunk)(hC:bq p qs R C)(i q n:Nat)(hq:qs[i]? = some q)(hn:R.size i=n)(h:324<=n/\n<=8192):Ct 83 [ptr q] [C] fun u Bs=>u = .agg #[.int .i64 0,.int .i64 9,.int .i64 ((n - 18:Nat):Int),.int .i64 ((n - 9:Nat):Int)]/\Bs=[C]:=by
 subst hn
 refine st Tryz.func83 fun w0 => ?_
 refine ga ?_;intro b2
 refine gc (cQ p qs R C hC i q hq) ?_
 rintro _ _ ⟨rfl,rfl⟩
 refine gz ?_
 exact fin ⟨rfl,rfl⟩ aa
theorem YS (T:TypeId)(fr:Nat×Nat)(p:Nat)(qs:List Nat)(R:Rk)(C:Chunk)(hC:bq p qs R C)(i q n a:Nat)(l:eU)(L:Chunk)(hL:OD a q l L)(hq:qs[i]? = some q)(hl:R.live i)(hn:R.size i=n)(h:324<=n/\n<=8192)
  (x:Ub) (hx:zP x=0) (ho:x.Ok) (hp:x.pool=l.pool) (hw:R.ws.length+4<=900000000000):Ct 154 [ptr a,x.agg] [gK T fr,C,L] fun u Bs =>
  ∃C',u = .int .i64 (if (R.run (upto (jW n i x) 4)).off then 5 else 0)/\bq p qs (R.run (upto (jW n i x) 4)) C'/\Bs=[gK T fr,C',L]:=by
 obtain ⟨ad,c,D,z1,z2,z3,hD,rfl⟩:=hL
 have fH:(whole (kE x)).length=128:=fQ (by rw [jr];omega)
 refine st Tryz.func154 fun w0 => ?_
 refine gs ?_
 refine ga ?_;intro b3
 refine gc (Gj T fr x hx ho) ?_
 rintro _ _ ⟨g,rfl,rfl⟩
 have hg:Rd [(g,ax (ak (whole (kE x))) 5)] 1 (.slice (some ⟨g,0,none⟩) 128 128) 128 (ak (whole (kE x))):=av (by rw [ai,fH]) (aK _) oZ _
 refine gc (pS p qs R C hC i q n hq hn h) ?_
 rintro _ _ ⟨rfl,rfl⟩
 refine gl [0,3,5,30] (fun ((k,_):Nat×Chunk)=>[(31,.int .i64 k)]) (fun (_,C)=>[C]) (fun (k,C)=>k<=4/\bq p qs (R.run (upto (jW n i x) k)) C/\(0<k->(R.run (upto (jW n i x) k)).off=false)) (fun (k,_)=>4 - k) (0,C) ⟨by omega,hC,fun h0=>absurd h0 oZ⟩ ?_
 rintro ⟨k,C⟩ ⟨hk,hC,jy⟩
 refine gi ?_ ?_ <;> intro bo
 ·have Mk:k<4:=by omega
  have Fp:=zY n Mk
  have mw:=zX (k:=k) h.1
  have yo:=Rk.iL R (upto (jW n i x) k)
  have zy:=cV (f:=jW n i x) (c:=1) (fun k=>by simp [jW,fT]) k
  have nL:=kJ p qs _ C hC i q (fC n k+1+x.txg % 8) 1 [whole (kE x)] [(g,ax (ak (whole (kE x))) 5)] (some ⟨g,0,none⟩) 128 hq ((Rk.eh _ _ _).2 hl) (by simp [fH]) rfl (by rw [Rk.dj,hn];omega) (by simpa using hg) oZ oZ
  rw [show (R.run (upto (jW n i x) k)).run (fT i (fC n k+1+x.txg % 8) [whole (kE x)])=R.run (upto (jW n i x) (k+1)) from (dP ..).symm] at nL
  refine gd [0,4,8,12,16,20,24,32,29,39,42] ?_
  refine ge ?_
  refine gc nL ?_
  rintro _ _ ⟨C',rfl,bA,rfl⟩
  cases dI:(R.run (upto (jW n i x) (k+1))).off with
  | true =>
   refine ge ?_
   refine gz ?_
   rw [jx dI (by omega:k+1<=4),dI]
   exact fin ⟨C',rfl,bA,rfl⟩ aa
  | false =>
   refine gn ?_
   exact ⟨(k+1,C'),⟨by omega,bA,fun _=>dI⟩,by simp only;omega,aq,_,aa⟩
 ·obtain rfl:k=4:=by omega
  refine gz ?_
  rw [jy oZ]
  exact fin ⟨C,rfl,hC,rfl⟩ aa
end Go.Proofs.YteldablklnfblaaGreatDoor
namespace Go.Sl
theorem Gr (no:Nat)(b:List UInt8):iZ no b=four [(aF (bU no b)).a,(aF (bU no b)).b,(aF (bU no b)).c,(aF (bU no b)).d]++bU no b:=by rw [Iz];rfl
end Go.Sl
namespace Go.Proofs.YteldablklnfblaaGreatDoor
open Go.Sl
set_option maxRecDepth 10000
set_option maxHeartbeats 4000000
section
variable (T:TypeId)(fr:Nat×Nat)(p:Nat)(qs:List Nat)(R:Rk)(C:Chunk)(hC:bq p qs R C)(i q n a:Nat)(l:eU)(L:Chunk)(hL:OD a q l L)(hq:qs[i]? = some q)(hl:R.live i)(hn:R.size i=n)(h:324<=n/\n<=8192)
include hC hL hq hl hn h
theorem OE (at_ no:Nat)(b:List UInt8)(O:Chunk)(v:Value)(ha:at_<256)(eD:1<=no/\no<=281474976710656)(hb:b.length=88)(hO:Rd O 1 v 88 (ak b))(hw:R.ws.length+1<=900000000000):Ct 167 [ptr a,.int .i64 at_,.int .u64 no,v] [gK T fr,C,L,O] fun u Bs =>
  ∃C',u = .int .i64 (if (R.run (fT i (18+at_) [iZ no b])).off then 5 else 0)/\bq p qs (R.run (fT i (18+at_) [iZ no b])) C'/\Bs=[gK T fr,C',L,O]:=by
 obtain ⟨ad,c,D,z1,z2,z3,hD,rfl⟩:=hL
 obtain ⟨iK,c1,rfl⟩:=hO.slice
 have dr:=CX (no:=no) hb
 have fH:=OC (no:=no) hb
 have aQ:=nn (bU no b)
 have hK:=fun g=>zL T fr [(g,ax (ak (bU no b)) 5)] (.slice (some ⟨g,0,none⟩) 96 96) (bU no b) 96 dr (av (by rw [ai,dr]) (aK _) oZ _) oZ 1
 rw [show iX 1 (bU no b)=(aF (bU no b),0) from rfl] at hK
 simp only at hK
 refine st Tryz.func167 fun w0 => ?_
 refine gs ?_
 refine gc (uQ 128 oZ) ?_
 rintro _ _ ⟨p1,A,rfl,hA,rfl⟩
 refine gc (fA p1 128 [] A no 8 hA oZ oZ (by simp)) ?_
 rintro _ _ ⟨A1,ma,rfl⟩
 refine gc (nj p1 128 _ b A1 O _ ma (by rw [hb];exact hO) (by simp [af];omega)) ?_
 rintro _ _ ⟨A2,lA,rfl⟩
 rw [List.nil_append] at lA
 change xd p1 128 (bU no b) A2 at lA
 have hd:=oz p1 128 _ A2 lA oZ
 rw [dr] at hd
 refine gc hd ?_
 rintro _ _ ⟨g,rfl,rfl⟩
 refine gc (hK g) ?_
 rintro _ _ ⟨rfl,rfl⟩
 refine ga ?_;intro R5
 refine gc (uQ 128 oZ) ?_
 rintro _ _ ⟨p2,A,rfl,hA,rfl⟩
 refine gl [0,1,10,13,68] (fun ((k,_):Nat×Chunk)=>[(69,.int .i64 k)]) (fun (_,A)=>[A]) (fun (k,A)=>k<=4/\xd p2 128 (four ([(aF (bU no b)).a,(aF (bU no b)).b,(aF (bU no b)).c,(aF (bU no b)).d].take k)) A) (fun (k,_)=>4 - k) (0,A) ⟨by omega,hA⟩ ?_
 rintro ⟨k,A⟩ ⟨hk,hA⟩
 refine gi ?_ ?_ <;> intro bo
 ·have Mk:k<4:=by omega
  obtain ⟨x,hx⟩:∃x,[(aF (bU no b)).a,(aF (bU no b)).b,(aF (bU no b)).c,(aF (bU no b)).d][k]? = some x:=⟨_,List.getElem?_eq_getElem Mk⟩
  have hv:([.int .u64 (aF (bU no b)).a,.int .u64 (aF (bU no b)).b,.int .u64 (aF (bU no b)).c,.int .u64 (aF (bU no b)).d]:List Value)[k]? = some (.int .u64 x):=by
   have:([(aF (bU no b)).a,(aF (bU no b)).b,(aF (bU no b)).c,(aF (bU no b)).d].map fun n:Nat=>Value.int .u64 n)[k]? = some (.int .u64 x):=by rw [List.getElem?_map,hx];rfl
   exact this
  have hb8:x<256 ^ 8:=by
   have:=List.mem_of_getElem? hx
   obtain ⟨h1,h2,h3,h4⟩:=aQ
   simp at this;rcases this with rfl | rfl | rfl | rfl <;> assumption
  have hl4:=uZ [(aF (bU no b)).a,(aF (bU no b)).b,(aF (bU no b)).c,(aF (bU no b)).d] k
  refine gc (fA p2 128 _ A x 8 hA oZ hb8 oZ) ?_
  rintro _ _ ⟨A',dY,rfl⟩
  rw [<-yj hx] at dY
  refine gn ?_
  exact ⟨(k+1,A'),⟨by omega,dY⟩,by simp only;omega,aq,_,aa⟩
 ·obtain rfl:k=4:=by omega
  have hg:Rd [(g,ax (ak (bU no b)) 5)] 1 (.slice (some ⟨g,0,none⟩) 96 96) (bU no b).length (ak (bU no b)):=by rw [dr];exact av (by rw [ai,dr]) (aK _) oZ _
  have hl4:=uZ [(aF (bU no b)).a,(aF (bU no b)).b,(aF (bU no b)).c,(aF (bU no b)).d] 4
  refine gc (nj p2 128 _ (bU no b) A _ _ hA hg oZ) ?_
  rintro _ _ ⟨A4,xf,rfl⟩
  rw [show ([(aF (bU no b)).a,(aF (bU no b)).b,(aF (bU no b)).c,(aF (bU no b)).d].take 4)=[(aF (bU no b)).a,(aF (bU no b)).b,(aF (bU no b)).c,(aF (bU no b)).d] from rfl,<-Gr] at xf
  have hd2:=oz p2 128 _ A4 xf oZ
  rw [fH] at hd2
  refine gc hd2 ?_
  rintro _ _ ⟨g2,rfl,rfl⟩
  have hg2:Rd [(g2,ax (ak (iZ no b)) 5)] 1 (.slice (some ⟨g2,0,none⟩) (1*128) 128) (1*128) (ak ([iZ no b]:List eG).flatten):=by
   rw [show ([iZ no b]:List eG).flatten=iZ no b by simp];exact av (by rw [ai,fH]) (aK _) oZ _
  refine qM [[(a,Wx q l (.slice ad l.aJ.length c) z1 z2 z3)]] [0,4,8,12,16,20,24,32,36,40,29,47,50] ?_
  refine gc (kJ p qs R C hC i q (18+at_) 1 [iZ no b] _ _ 128 hq hl (by simp [fH]) rfl oZ hg2 oZ oZ) ?_
  rintro _ _ ⟨C',rfl,bA,rfl⟩
  cases dI:(R.run (fT i (18+at_) [iZ no b])).off with
  | true =>
   refine ge ?_
   refine gz ?_
   exact fin ⟨C',rfl,bA,rfl⟩ aa
  | false =>
   refine ge ?_
   refine gz ?_
   exact fin ⟨C',rfl,bA,rfl⟩ aa
omit h in
theorem IE (at_:Nat)(ha:at_<256)(h18:18+at_<n):Ct 123 [ptr a,.int .i64 at_] [gK T fr,C,L] fun u Bs =>
  (R.off=true/\u = .tuple #[.int .u64 0,.slice none 0 0,.bool false]/\Bs=[gK T fr,C,L])\/(R.off=false/\gB (R.now i (18+at_))=false/\u = .tuple #[.int .u64 0,.slice none 0 0,.bool false]/\Bs=[gK T fr,C,L]) \/
  (R.off=false/\gB (R.now i (18+at_))=true/\∃g,u = .tuple #[.int .u64 (fv (R.now i (18+at_))),.slice (some ⟨g,0,none⟩) 88 88,.bool true]/\Bs=[[(g,ax (ak (Ks (R.now i (18+at_)))) 5)],gK T fr,C,L]):=by
 obtain ⟨ad,c,D,z1,z2,z3,hD,rfl⟩:=hL
 have xu:=kK hC.ok (i:=i) (a:=18+at_) oZ
 obtain ⟨s,hs⟩:∃s,s=R.now i (18+at_):=⟨_,rfl⟩
 rw [<-hs] at xu ⊢
 obtain ⟨lX,fH⟩:=xu
 refine st Tryz.func123 fun w0 => ?_
 refine gs ?_
 refine gc (nq p qs R C hC i q (18+at_) 1 hq hl oZ) ?_
 rintro _ _ (⟨ho,rfl,rfl⟩ | ⟨ho,g,rfl,rfl⟩)
 ·refine gz ?_
  exact fin (.inl ⟨ho,rfl,rfl⟩) aa
 rw [lX]
 have hg:Rd [(g,ax (ak s) 5)] 1 (.slice (some ⟨g,0,none⟩) 128 128) 128 (ak s):=av (by rw [ai,fH]) (aK _) oZ _
 refine gc (rq s 128 fH oZ _ _ hg) ?_
 rintro _ _ ⟨p1,A,rfl,hA,rfl⟩
 refine gc (cj p1 s 0 8 A hA oZ oZ) ?_
 rintro _ _ ⟨A1,rfl,ma,rfl⟩
 refine gc (cj p1 s 8 8 A1 ma oZ oZ) ?_
 rintro _ _ ⟨A2,rfl,lA,rfl⟩
 refine gc (cj p1 s 16 8 A2 lA oZ oZ) ?_
 rintro _ _ ⟨A3,rfl,u1,rfl⟩
 refine gc (cj p1 s 24 8 A3 u1 oZ oZ) ?_
 rintro _ _ ⟨A4,rfl,xf,rfl⟩
 refine ga ?_;intro xc
 refine gc (cj p1 s 32 8 A4 xf oZ oZ) ?_
 rintro _ _ ⟨A5,rfl,Fm,rfl⟩
 refine gc (pI p1 s 40 88 A5 Fm oZ) ?_
 rintro _ _ ⟨A6,g2,rfl,R4,rfl⟩
 have afH:128 - 32=96:=rfl
 have ou:((ak s).drop (32*1)).take ((128 - 32)*1)=ak (s.drop 32):=by rw [Nat.mul_one,Nat.mul_one,aY,List.take_of_length_le (by rw [ai,List.length_drop];omega)]
 have s7:(s.drop 32).length=96:=by rw [List.length_drop];omega
 refine gd [0,4,8,15,18,22,26,30,34,38,42,46,50] ?_
 refine gw ?_;intro fL zK
 refine gc (zM T fr [(g,ax (ak s) 5)] _ (s.drop 32) 96 s7 zK oZ 1 (mD s 0)) ?_
 rintro _ _ ⟨rfl,rfl⟩
 have hk:sW 1 (mD s 0) (s.drop 32)=decide (mD s 0=aF (s.drop 32)):=by show (true&&Fs.J2 _ _)=_;rw [Bool.true_and,Fs.F6];rfl
 rw [hk]
 have eD:numOf (cut s 32 8)=fv s:=rfl
 rw [eD]
 by_cases hc:mD s 0=aF (s.drop 32)
 ·rw [decide_eq_true hc]
  refine gg ?_ ?_ <;> intro h1
  ·refine gz ?_
   exact fin (.inr (.inl ⟨ho,by unfold gB;rw [decide_eq_false (p:=1<=fv s/\_) oZ,Bool.and_false],rfl,rfl⟩)) aa
  ·refine gi ?_ ?_ <;> intro h2
   ·refine gz ?_
    exact fin (.inr (.inl ⟨ho,by unfold gB;rw [decide_eq_false (p:=1<=fv s/\_) oZ,Bool.and_false],rfl,rfl⟩)) aa
   ·refine gz ?_
    exact fin (.inr (.inr ⟨ho,by unfold gB;rw [decide_eq_true hc,decide_eq_true oZ];rfl,g2,rfl,rfl⟩)) aa
 ·rw [decide_eq_false hc]
  refine gz ?_
  exact fin (.inr (.inl ⟨ho,by unfold gB;rw [decide_eq_false hc,Bool.false_and],rfl,rfl⟩)) aa
theorem vh (at_ many:Nat)(hm:at_+many+292<=n):Ct 225 [ptr a,.int .i64 at_,.int .i64 many] [C,L] fun u Bs =>
  (R.off=true/\u = .tuple #[.slice none 0 0,.int .i64 5]/\Bs=[C,L])\/(R.off=false/\∃g,u = .tuple #[.slice (some ⟨g,0,none⟩) (many*128) (many*128),.int .i64 0]/\Bs=[C,[(g,ax (ak (R.rC i (274+at_) many)) 5)],L]):=by
 obtain ⟨ad,c,D,z1,z2,z3,hD,rfl⟩:=hL
 refine st Tryz.func225 fun w0 => ?_
 refine gs ?_
 refine ge ?_
 refine gc (nq p qs R C hC i q 0 0 hq hl oZ) ?_
 rintro _ _ (⟨ho,rfl,rfl⟩ | ⟨ho,g,rfl,rfl⟩)
 ·refine ge ?_
  refine gz ?_
  exact fin (.inl ⟨ho,rfl,rfl⟩) aa
 refine ge ?_
 refine ge ?_
 refine gc (cQ p qs R C hC i q hq) ?_
 rintro _ _ ⟨rfl,rfl⟩
 rw [hn]
 refine ge ?_
 refine gc (cQ p qs R C hC i q hq) ?_
 rintro _ _ ⟨rfl,rfl⟩
 rw [hn]
 refine gc (nq p qs R C hC i q (274+at_) many hq hl oZ) ?_
 rintro _ _ (⟨dI,rfl,rfl⟩ | ⟨dI,g,rfl,rfl⟩)
 ·rw [ho] at dI;cases dI
 ·refine gz ?_
  exact fin (.inr ⟨ho,g,rfl,rfl⟩) aa
theorem yp (at_ m:Nat)(ss:List eG)(O:Chunk)(ad:Option Addr)(c:Nat)(ID:∀s∈ss,s.length=128)(hm:ss.length=m)(hf:at_+m+292<=n)
  (hO:Rd O 1 (.slice ad (m*128) c) (m*128) (ak ss.flatten)) (hc:m*128<=c) (hw:R.ws.length+m<=900000000000):Ct 321 [ptr a,.int .i64 at_,.slice ad (m*128) c] [C,L,O] fun u Bs =>
  ∃C',u = .int .i64 (if (R.run (fT i (274+at_) ss)).off then 5 else 0)/\bq p qs (R.run (fT i (274+at_) ss)) C'/\Bs=[C',L,O]:=by
 obtain ⟨iK,c1,D,z1,z2,z3,hD,rfl⟩:=hL
 refine st Tryz.func321 fun w0 => ?_
 refine gs ?_
 refine ge ?_
 refine gc (nq p qs R C hC i q 0 0 hq hl oZ) ?_
 rintro _ _ (⟨ho,rfl,rfl⟩ | ⟨ho,g,rfl,rfl⟩)
 ·refine ge ?_
  refine gz ?_
  rw [Rk.jV ho,ho]
  exact fin ⟨C,rfl,hC,rfl⟩ aa
 refine ge ?_
 refine ge ?_
 refine gc (cQ p qs R C hC i q hq) ?_
 rintro _ _ ⟨rfl,rfl⟩
 rw [hn]
 refine ge ?_
 refine gc (cQ p qs R C hC i q hq) ?_
 rintro _ _ ⟨rfl,rfl⟩
 rw [hn]
 refine gc (kJ p qs R C hC i q (274+at_) m ss O ad c hq hl ID hm oZ hO hc hw) ?_
 rintro _ _ ⟨C',rfl,bA,rfl⟩
 refine gz ?_
 exact fin ⟨C',rfl,bA,rfl⟩ aa
omit h hn in
theorem CY:Ct 320 [ptr a] [C,L] fun u Bs=>∃C',u = .int .i64 (if (R.ev (.f i)).off then 5 else 0)/\bq p qs (R.ev (.f i)) C'/\Bs=[C',L]:=by
 obtain ⟨iK,c1,D,z1,z2,z3,hD,rfl⟩:=hL
 refine st Tryz.func320 fun w0 => ?_
 refine gs ?_
 refine qM [[(a,Wx q l (.slice iK l.aJ.length c1) z1 z2 z3)]] [0,4,8,12,20,24,28,17,35,38] ?_
 refine gc (CU p qs R C hC i q hq hl) ?_
 rintro _ _ ⟨C',rfl,bA,rfl⟩
 cases dI:(R.ev (.f i)).off with
 | true =>
  refine ge ?_
  refine gz ?_
  exact fin ⟨C',rfl,bA,rfl⟩ aa
 | false =>
  refine ge ?_
  refine gz ?_
  exact fin ⟨C',rfl,bA,rfl⟩ aa
end
end Go.Proofs.YteldablklnfblaaGreatDoor
namespace Go.Sl
structure Lv where
 a:Nat
 i:Nat
 q:Nat
abbrev iw:Option Lv->Value
 | none=>.pointer none
 | some x=>ptr x.a
def vm (ls:List (Option Lv)):SZ Nat:=⟨0,fun i vs i'=>∃x,ls[i]? = some (some x)/\vs=[.int .i64 i,ptr x.a]/\i'=i+1,fun i i'=>ls[i]? = some none/\i'=i+1,fun i=>i=ls.length⟩
end Go.Sl
namespace Go.Proofs.YteldablklnfblaaGreatDoor
open Go.Sl
set_option maxRecDepth 10000
set_option maxHeartbeats 4000000
abbrev z6 (vl vk:Value)(sz:Int):Obj:=ax [vl,vk,.int .i64 sz] 234
theorem OF (l b t:Nat)(ls:List (Option Lv))(iM:ls.length<=1000)(vl:Value)(CL:Chunk)(hCL:az CL 92 1 vl ls.length (ls.map iw))(vk:Value)(sz:Int)(J:Nat->World->Prop)(Jx:World->Prop)
  (adB:∀w,J 0 w->w.heap[b]? = some (ax [ptr t] 173)/\w.heap[t]? = some (z6 vl vk sz)) (pc:∀i w,J i w->∀x∈CL,w.heap[x.1]? = some x.2)
  (TH:∀i w,ls[i]? = some none->J i w->J (i+1) w)
  (YT:∀i x w,ls[i]? = some (some x)->J i w->∃rc,w.heap[l]? = some (.loop rc)/\2=rc.params.size /\
   RoundIn Fence.wide 0 Tryz.prog l rc.fn ((rc.params.zip #[.int .i64 i,ptr x.a]).foldl (fun tmps x=>tmps.setIfInBounds x.1 x.2) rc.tmps) rc.assign rc.body w fun en w'=>(en = .returned (.bool true)/\J (i+1) w')\/(en = .returned (.bool false)/\Jx w'))
  (w:World) (h0:J 0 w):CallsIn Fence.wide 0 Tryz.prog 202 #[.func (.yield l) #[] #[],ptr b] w fun en w'=>∃v,en = .returned v/\(J ls.length w'\/Jx w'):=by
 obtain ⟨hb,ht⟩:=adB w h0
 obtain ⟨ad,c,rfl⟩:=hCL.slice
 refine HV 25 Tryz.func202 rfl rfl dZ ?_;intro a E
 refine dO ?_;intro K hK
 refine da rfl ?_
 refine aP E rfl rfl dZ (kA E rfl rfl rfl (uu hb rfl)) ?_;clear E a;intro a E
 refine aP E rfl rfl dZ (sq E rfl rfl) ?_;clear E a;intro a E
 refine aP E rfl rfl dZ (by first | exact nY (q:=0) E rfl rfl rfl | exact lj (q:=0) E rfl rfl rfl) ?_;clear E a;intro a E
 refine aP E rfl rfl dZ (kA E rfl rfl rfl (uu ht rfl)) ?_;clear E a;intro a E
 refine aP E rfl rfl dZ (by first | exact MO E rfl rfl rfl | exact ui E rfl rfl rfl | exact nW E rfl rfl rfl) ?_;clear E a;intro a E
 refine aP E rfl rfl dZ (dX E rfl rfl) ?_;clear E a;intro a E
 refine wpList_nil ?_;refine bj ?_
 refine eC hK ?_;clear hK;clear K
 refine mq ?_
 refine j6 (fun (m:Nat) (a:Act) (w':World)=>∃i:Nat,m=ls.length - i/\i<=ls.length/\J i w'/\Fr a 25 [(0,.func (.yield l) #[] #[]),(8,.slice ad ls.length c),(9,.int .i64 ls.length),(10,.int .i64 i)]) (ls.length - 0) ?_ ?_
 ·exact ⟨0,rfl,by omega,h0,E.dg (bN rfl (bN rfl (bN rfl (bN rfl mf))))⟩
 clear E;clear a;(try clear S);rintro m a w ⟨i,rfl,hi,hJ,E⟩
 refine dO ?_;intro K hK
 refine da rfl ?_
 refine aP E rfl rfl dZ (MP E rfl rfl rfl) ?_;clear E a;intro a E
 refine wpList_nil ?_;refine bj ?_
 refine eC hK ?_;clear hK;clear K
 refine dO ?_;intro K hK
 refine Ni E rfl (fun hb => ?_) (fun hb => ?_)
 ·replace hb:=JD.nrm hb
  refine ng ?_
  refine eC hK ?_;clear hK;clear K
  refine dO ?_;intro K hK
  refine mq ?_
  refine dO ?_;intro K hK
  have bm:i<ls.length:=by omega
  obtain ⟨g,rfl⟩:=hCL.addr oZ
  have cw:=pc i w hJ
  obtain ⟨o,ho⟩:∃o,ls[i]? = some o:=⟨_,List.getElem?_eq_getElem bm⟩
  have bV:(ls.map iw)[i]? = some (iw o):=by rw [List.getElem?_map,ho];rfl
  refine da rfl ?_
  rcases o with _ | x
  ·skip
   refine aP E rfl rfl dZ (dX E rfl rfl) ?_;clear E a;intro a E
   refine aP E rfl rfl dZ (by first | exact nZ E rfl rfl rfl rfl rfl rfl oZ | exact iW E rfl rfl rfl rfl rfl rfl oZ | exact fj E rfl rfl rfl rfl rfl rfl oZ) ?_;clear E a;intro a E
   refine aP E rfl rfl dZ (kA E rfl rfl rfl (hCL.rd.cells cw rfl i _ bV)) ?_;clear E a;intro a E
   refine aP E rfl rfl dZ (jg E rfl rfl) ?_;clear E a;intro a E
   refine aP E rfl rfl dZ (jg E rfl rfl) ?_;clear E a;intro a E
   refine wpList_nil ?_;refine bj ?_
   refine eC hK ?_;clear hK;clear K
   refine dO ?_;intro K hK
   refine wpIn_region_lit ?_
   refine bT E rfl rfl rfl dZ (dX E rfl rfl) ?_;clear E a;intro a E
   refine bT E rfl rfl rfl dZ (by first | exact FI E rfl rfl rfl | exact jm E rfl rfl rfl rfl | exact mh E rfl rfl rfl rfl | exact j4 E rfl rfl rfl) ?_;clear E a;intro a E
   refine bT E rfl rfl rfl dZ (dX E rfl rfl) ?_;clear E a;intro a E
   refine guard_false E (t:=17) rfl (rfl) (fun oE => ?_)
   refine eF E rfl rfl rfl rfl oE rfl dZ ?_;clear E a;intro a E
   refine eF E rfl rfl rfl rfl oE rfl dZ ?_;clear E a;intro a E
   refine eF E rfl rfl rfl rfl oE rfl dZ ?_;clear E a;intro a E
   refine eF E rfl rfl rfl rfl oE rfl dZ ?_;clear E a;intro a E
   refine eF E rfl rfl rfl rfl oE rfl dZ ?_;clear E a;intro a E
   refine bT E rfl rfl rfl dZ (BC E rfl rfl oE rfl) ?_;clear E a;intro a E
   refine wpListIn_nil ?_
   refine eC hK ?_;clear hK;clear K
   refine kC E rfl rfl ?_
   refine ng ?_
   refine qW ?_
   refine eC hK ?_;clear hK;clear K
   refine da rfl ?_
   refine aP E rfl rfl dZ (FH E rfl rfl rfl (by first | exact MW (y:=1) oZ | exact XN oZ | exact MY oZ | exact rfl)) ?_;clear E a;intro a E
   refine aP E rfl rfl dZ (dX E rfl rfl) ?_;clear E a;intro a E
   refine wpList_nil ?_;refine bj ?_
   refine mg ?_
   exact ⟨_,by omega,i+1,rfl,by omega,TH i w ho hJ,E.dg (bN rfl (bN rfl (bN rfl (bN rfl mf))))⟩
  ·skip
   refine aP E rfl rfl dZ (dX E rfl rfl) ?_;clear E a;intro a E
   refine aP E rfl rfl dZ (by first | exact nZ E rfl rfl rfl rfl rfl rfl oZ | exact iW E rfl rfl rfl rfl rfl rfl oZ | exact fj E rfl rfl rfl rfl rfl rfl oZ) ?_;clear E a;intro a E
   refine aP E rfl rfl dZ (kA E rfl rfl rfl (hCL.rd.cells cw rfl i _ bV)) ?_;clear E a;intro a E
   refine aP E rfl rfl dZ (jg E rfl rfl) ?_;clear E a;intro a E
   refine aP E rfl rfl dZ (jg E rfl rfl) ?_;clear E a;intro a E
   refine wpList_nil ?_;refine bj ?_
   refine eC hK ?_;clear hK;clear K
   refine dO ?_;intro K hK
   refine wpIn_region_lit ?_
   obtain ⟨rc,hl,bu,hR⟩:=YT i x w ho hJ;clear hJ
   refine bT E rfl rfl rfl dZ (dX E rfl rfl) ?_;clear E a;intro a E
   refine bT E rfl rfl rfl dZ (by first | exact FI E rfl rfl rfl | exact jm E rfl rfl rfl rfl | exact mh E rfl rfl rfl rfl | exact j4 E rfl rfl rfl) ?_;clear E a;intro a E
   refine bT E rfl rfl rfl dZ (dX E rfl rfl) ?_;clear E a;intro a E
   refine guard_true E (t:=17) rfl (rfl) (fun oE => ?_)
   refine ee E rfl rfl rfl rfl oE rfl rfl dZ (dX E rfl rfl) ?_;clear E a;intro a E
   refine ee E rfl rfl rfl rfl oE rfl rfl dZ (dX E rfl rfl) ?_;clear E a;intro a E
   refine ee E rfl rfl rfl rfl oE rfl rfl dZ (dX E rfl rfl) ?_;clear E a;intro a E
   refine uD E rfl rfl rfl rfl oE (yd E rfl dZ rfl rfl rfl (hl) (bu) (RoundIn.mono (hR) ?_))
   rintro en w (⟨rfl,hJ⟩ | ⟨rfl,hJ⟩)
   ·refine ⟨_,rfl, ?_⟩;clear E a;intro a E
    refine ee E rfl rfl rfl rfl oE rfl rfl dZ (ua E rfl rfl) ?_;clear E a;intro a E
    refine bT E rfl rfl rfl dZ (pk E rfl rfl oE rfl) ?_;clear E a;intro a E
    refine wpListIn_nil ?_
    refine eC hK ?_;clear hK;clear K
    refine kC E rfl rfl ?_
    refine ng ?_
    refine qW ?_
    refine eC hK ?_;clear hK;clear K
    refine da rfl ?_
    refine aP E rfl rfl dZ (FH E rfl rfl rfl (by first | exact MW (y:=1) oZ | exact XN oZ | exact MY oZ | exact rfl)) ?_;clear E a;intro a E
    refine aP E rfl rfl dZ (dX E rfl rfl) ?_;clear E a;intro a E
    refine wpList_nil ?_;refine bj ?_
    refine mg ?_
    exact ⟨_,by omega,i+1,rfl,by omega,hJ,E.dg (bN rfl (bN rfl (bN rfl (bN rfl mf))))⟩
   ·refine ⟨_,rfl, ?_⟩;clear E a;intro a E
    refine ee E rfl rfl rfl rfl oE rfl rfl dZ (ua E rfl rfl) ?_;clear E a;intro a E
    refine bT E rfl rfl rfl dZ (pk E rfl rfl oE rfl) ?_;clear E a;intro a E
    refine wpListIn_nil ?_
    refine eC hK ?_;clear hK;clear K
    refine pC E rfl rfl ?_
    refine FV ?_
    refine yY ?_
    refine tW ?_;clear hK;clear K
    refine tW ?_
    refine yY ?_
    refine aaA E rfl ?_
    exact ⟨_,rfl,.inr hJ⟩
 ·replace hb:=JD.nrm hb
  refine zl ?_
  refine nc ?_;clear hK;clear K
  refine nc ?_
  refine y4 ?_
  refine aaB E rfl ?_
  obtain rfl:i=ls.length:=by omega
  exact ⟨_,rfl,.inl hJ⟩
theorem vp (b t:Nat)(ls:List (Option Lv))(iM:ls.length<=1000)(vl vk:Value)(CL:Chunk)(hCL:az CL 92 1 vl ls.length (ls.map iw))(sz:Int) :
  NJ Tryz.prog 202 [ptr b] [CL] [[(b,ax [ptr t] 173)],[(t,z6 vl vk sz)]] (vm ls):=by
 intro w0 As J ow l rc w Ls S hB h0 hsk hr
 have mB:∀ {w':World} {C:Chunk},C∈Ls->St w0 As w' ([(l,.loop rc)] :: ([CL]++Ls))->lU [C] w':=fun hC S=>S.j3.sub fun D hD=>by rw [List.mem_singleton.1 hD];exact List.mem_cons_of_mem _ (List.mem_cons_of_mem _ hC)
 refine CallsIn.mono (OF l b t ls iM vl CL hCL vk sz (fun i w'=>∃bg,St w0 As w' ([(l,.loop rc)] :: ([CL]++bg))/\J i bg/\(i=0->bg=Ls\/0<i)) (fun w'=>∃bg,St w0 As w' ([(l,.loop (yb rc))] :: ([CL]++bg))/\ow bg)
  (fun w2 ⟨bg,S2,_,h⟩ => ?_) (fun i w ⟨bg,S,_⟩=>S.j3.at mem) (fun i w hi ⟨bg,S,hJ,_⟩=>⟨bg,S,hsk i (i+1) bg ⟨hi,rfl⟩ hJ,fun h=>by omega⟩)
  (fun i x w hi ⟨bg,S,hJ,_⟩ => ?_) w ⟨Ls,S,h0,fun _=>.inl rfl⟩) ?_
 ·rcases h rfl with rfl | h
  ·exact ⟨(mB (hB _ (List.mem_cons_self ..)) S2).one mem,(mB (hB _ (List.mem_cons_of_mem _ (List.mem_cons_self ..))) S2).one mem⟩
  ·omega
 ·obtain ⟨h1,h2⟩:=hr i [.int .i64 i,ptr x.a] (i+1) bg w ⟨x,hi,rfl,rfl⟩ hJ S
  refine ⟨rc,S.uB,h1,RoundIn.mono h2 ?_⟩
  rintro en w' (⟨h3,L',h4,h5⟩ | ⟨h3,L',h4,h5⟩)
  ·exact .inl ⟨h3,L',h4,h5,fun h=>by omega⟩
  ·exact .inr ⟨h3,L',h4,h5⟩
 ·rintro en w' ⟨v,rfl,h⟩
  refine ⟨v,rfl, ?_⟩
  rcases h with ⟨bg,S,hJ,_⟩ | ⟨bg,S,hJ⟩
  ·exact .inl ⟨_,bg,rfl,S,hJ⟩
  ·exact .inr ⟨bg,S,hJ⟩
end Go.Proofs.YteldablklnfblaaGreatDoor
namespace Go.Sl
def s8:Nat->List UInt8->List eG
 | 0,_=>[]
 | k+1,l=>l.take 128 :: s8 k (l.drop 128)
theorem CZ:∀(k:Nat) (l:List UInt8),(s8 k l).length=k
 | 0,_=>rfl
 | k+1,l=>by simp [s8,CZ k]
theorem Da:∀(k:Nat) {l:List UInt8},l.length=k*128->(∀s∈s8 k l,s.length=128)/\(s8 k l).flatten=l
 | 0,l,h=>by
  have:l=[]:=List.eq_nil_of_length_eq_zero oZ
  subst this;simp [s8]
 | k+1,l,h=>by
  obtain ⟨h1,h2⟩:=Da k (l:=l.drop 128) (by rw [List.length_drop];omega)
  refine ⟨fun s hs => ?_,by rw [s8,List.flatten_cons,h2,List.take_append_drop]⟩
  rcases List.mem_cons.1 hs with rfl | hs
  ·rw [List.length_take];omega
  ·exact h1 s hs
def aD (n:Nat):Nat:=(n+127) / 128
def jI (b:List UInt8):List UInt8:=b++List.replicate (aD b.length*128 - b.length) 0
def kL (b:List UInt8):List eG:=s8 (aD b.length) (jI b)
theorem vt (b:List UInt8):(jI b).length=aD b.length*128:=by simp [jI,aD];omega
theorem gY (b:List UInt8):(kL b).length=aD b.length:=CZ ..
theorem kM (b:List UInt8):(∀s∈kL b,s.length=128)/\(kL b).flatten=jI b:=Da _ (vt b)
def dJ (qs:List Nat)(R:Rk)(n:Nat)(ls:List (Option Lv)):Prop:=∀x,some x∈ls->qs[x.i]? = some x.q/\R.live x.i/\R.size x.i=n
theorem dJ.run {qs:List Nat}{R:Rk}{n:Nat}{ls:List (Option Lv)}(h:dJ qs R n ls)(l:List Ev):dJ qs (R.run l) n ls:=fun x hx=>by
 obtain ⟨h1,h2,h3⟩:=h x hx
 exact ⟨h1,(Rk.eh ..).2 h2,by rw [Rk.dj,h3]⟩
def nM (ls:List (Option Lv))(at_:Nat)(b:List UInt8)(k:Nat):List Ev:=match ls[k]? with
 | some (some x)=>fT x.i (274+at_) (kL b)
 | _=>[]
def nr (ls:List (Option Lv))(k:Nat):List Ev:=match ls[k]? with
 | some (some x)=>[.f x.i]
 | _=>[]
theorem Db (ls:List (Option Lv))(at_:Nat){b:List UInt8}(h:b.length<=1024)(k:Nat):(nM ls at_ b k).length<=8:=by
 unfold nM;split
 ·rw [fu,gY,aD];omega
 ·simp
end Go.Sl
namespace Go.Proofs.YteldablklnfblaaGreatDoor
open Go.Sl
set_option maxRecDepth 10000
set_option maxHeartbeats 4000000
def iy (mk:Nat->eU):Nat->List (Option Lv)->Chunk->Prop
 | _,[],C=>C=[]
 | k,none :: l,C=>iy mk (k+1) l C
 | k,some x :: l,C=>∃L C',OD x.a x.q (mk k) L/\iy mk (k+1) l C'/\C=L++C'
theorem iy.at {mk:Nat->eU}:∀ {l:List (Option Lv)} {k0 k:Nat} {C:Chunk} {x:Lv},iy mk k0 l C->l[k]? = some (some x)->∃A L B,OD x.a x.q (mk (k0+k)) L/\C=A++(L++B)
 | none :: l,k0,k+1,C,x,h,hx=>by
  obtain ⟨A,L,B,h1,h2⟩:=iy.at (l:=l) (k0:=k0+1) (k:=k) (C:=C) h (by simpa using hx)
  exact ⟨A,L,B,by rw [show k0+(k+1)=k0+1+k by omega];exact h1,h2⟩
 | some y :: l,k0,0,C,x,⟨L,C',h1,h2,h3⟩,hx=>by
  cases hx;exact ⟨[],L,C',h1,h3⟩
 | some y :: l,k0,k+1,C,x,⟨L,C',h1,h2,h3⟩,hx=>by
  obtain ⟨A,L',B,g1,g2⟩:=iy.at (l:=l) (k0:=k0+1) (k:=k) (C:=C') h2 (by simpa using hx)
  exact ⟨L++A,L',B,by rw [show k0+(k+1)=k0+1+k by omega];exact g1,by rw [h3,g2,List.append_assoc]⟩
abbrev mH:Option (Nat×Nat)->List Value
 | none=>[.int .u64 0,.int .u64 0,.bool false]
 | some (a,b)=>[.int .u64 a,.int .u64 b,.bool true]
theorem Ku (x:Option (Nat×Nat)):(mH x).length=3:=by rcases x with _ | ⟨a,b⟩ <;> rfl
def Kv (m:Nat)(ls:List (Option Lv))(lk:List (Option (Nat×Nat)))(sz:Nat)(M:Chunk):Prop:=∃ad c Cv g,
 az Cv 92 1 (.slice ad ls.length c) ls.length (ls.map iw)/\lk.length=ls.length /\
 M=[(m,z6 (.slice ad ls.length c) (.slice (some ⟨g,0,none⟩) ls.length ls.length) sz)]++(Cv++[(g,ax (lk.flatMap mH) 421)])
theorem pT (m b:Nat)(hb:1<=b/\b<=1024):Ct 348 [ptr m,.int .i64 b] [] fun u Bs=>u = .int .i64 (aD b)/\Bs=[]:=by
 refine st Tryz.func348 fun w0 => ?_
 refine gz ?_
 exact fin ⟨congrArg _ (by unfold aD;omega),rfl⟩ aa
theorem Kw (m:Nat)(b:List UInt8)(n:Nat)(hn:b.length=n)(hb:1<=n/\n<=1024)(O:Chunk)(v:Value)(hO:Rd O 1 v n (ak b)):Ct 356 [ptr m,v] [O] fun u Bs=>∃g,u = .slice (some ⟨g,0,none⟩) (aD n*128) (aD n*128)/\Bs=[[(g,ax (ak (jI b)) 5)],O]:=by
 subst hn
 obtain ⟨ad,c,rfl⟩:=hO.slice
 have ek:aD b.length<=8/\b.length<=aD b.length*128:=by unfold aD;omega
 refine st Tryz.func356 fun w0 => ?_
 refine gc (pT m b.length hb) ?_
 rintro _ _ ⟨rfl,rfl⟩
 refine gm ?_;intro g
 have zV:(List.replicate (aD b.length*128) (Value.int .u8 0)).take 0++(ak b).take (min b.length (aD b.length*128))++(List.replicate (aD b.length*128) (Value.int .u8 0)).drop (0+min b.length (aD b.length*128))=ak (jI b):=by
  rw [Nat.min_eq_left ek.2,List.take_zero,List.nil_append,List.take_of_length_le (by rw [ai];omega),Nat.zero_add,List.drop_replicate,jI,aE]
  simp [ak]
 refine gy ?_
 refine gz ?_
 exact fin ⟨g,rfl,rfl⟩ aa
section
variable (p:Nat)(qs:List Nat)(m n:Nat)(ls:List (Option Lv))(mk:Nat->eU)(lk:List (Option (Nat×Nat)))(hn:324<=n/\n<=8192)(iM:ls.length<=5)
include hn iM
theorem OG (R:Rk)(C M L:Chunk)(hC:bq p qs R C)(hM:Kv m ls lk (n - 292) M)(hL:iy mk 0 ls L)(ho:dJ qs R n ls)(hall:∀x∈ls,x≠none)(eL:1<=ls.length)
  (at_ txg:Nat) (b:List UInt8) (k:Nat) (hk:b.length=k) (hb:1<=k/\k<=1024) (hf:at_+aD k+292<=n) (ht:1<=txg/\txg<=281474976710656) (O:Chunk) (v:Value) (hO:Rd O 1 v k (ak b)) (hw:R.ws.length+40<=900000000000) :
  Ct 351 [ptr m,.int .i64 at_,v,.int .u64 txg] [C,M,L,O] fun u Bs=>∃C',u = .int .i64 (if (R.run (upto (nM ls at_ b) ls.length)).off then 5 else 0)/\bq p qs (R.run (upto (nM ls at_ b) ls.length)) C'/\Bs=[C',M,L,O]:=by
 subst hk
 obtain ⟨ad,c,Cv,g,oG,gN,rfl⟩:=hM
 have Fq:=oG.rd
 have ek:1<=aD b.length/\aD b.length<=8:=by unfold aD;omega
 obtain ⟨j8,cv,rfl⟩:=hO.slice
 refine st Tryz.func351 fun w0 => ?_
 refine gs ?_
 refine ge ?_
 refine gc (pT m b.length hb) ?_
 rintro _ _ ⟨rfl,rfl⟩
 refine gl [0,1,2,3,30,31] (fun ((j,t9,_):Nat×Bool×Chunk)=>[(32,.int .i64 j),(9,.bool t9)]) (fun (_,_,C)=>[C]) (fun (j,t9,C)=>j<=ls.length/\t9=decide (0<j)/\bq p qs (R.run (upto (nM ls at_ b) j)) C/\(0<j->(R.run (upto (nM ls at_ b) j)).off=false)) (fun (j,_)=>ls.length - j) (0,false,C) ⟨by omega,rfl,hC,fun h0=>absurd h0 oZ⟩ ?_
 rintro ⟨j,t9,C⟩ ⟨hj,rfl,hC,jy⟩
 refine gi ?_ ?_ <;> intro bo
 ·obtain ⟨ox,hx⟩:=eB (l:=ls) (i:=j) oZ
  rcases ox with _ | x
  ·exact absurd rfl (hall _ (List.mem_of_getElem? hx))
  have TI:=List.mem_of_getElem? hx
  obtain ⟨o1,o2,o3⟩:=ho.run (upto (nM ls at_ b) j) x TI
  have bV:(ls.map iw)[j]? = some (ptr x.a):=by rw [List.getElem?_map,hx];rfl
  obtain ⟨A,L1,B,pU,rfl⟩:=hL.at hx
  obtain ⟨YU,off,rfl⟩:=Fq.addr oZ
  have yo:=Rk.iL R (upto (nM ls at_ b) j)
  have zy:=cV (Db ls at_ hb.2) j
  have hmf:nM ls at_ b j=fT x.i (274+at_) (kL b):=by unfold nM;rw [hx]
  refine gs ?_
  refine gc (Kw m b b.length rfl hb O _ hO) ?_
  rintro _ _ ⟨g2,rfl,rfl⟩
  have hg2:Rd [(g2,ax (ak (jI b)) 5)] 1 (.slice (some ⟨g2,0,none⟩) (aD b.length*128) (aD b.length*128)) (aD b.length*128) (ak (kL b).flatten):=by
   rw [(kM b).2];exact av (by rw [ai,vt];omega) (aK _) oZ _
  have nL:=yp p qs _ C hC x.i x.q n x.a (mk (0+j)) L1 pU o1 o2 o3 hn at_ (aD b.length) (kL b) _ _ (aD b.length*128) (kM b).1 (gY b) oZ hg2 (Nat.le_refl _) oZ
  rw [<-hmf,<-dP] at nL
  refine gc nL ?_
  rintro _ _ ⟨C',rfl,bA,rfl⟩
  cases dI:(R.run (upto (nM ls at_ b) (j+1))).off with
  | true =>
   refine gz ?_
   rw [jx dI (by omega:j+1<=ls.length),dI]
   exact fin ⟨C',rfl,bA,rfl⟩ aa
  | false =>
   refine gn ?_
   exact ⟨(j+1,true,C'),⟨by omega,by simp,bA,fun _=>dI⟩,by simp only;omega,aq,_,aa⟩
 ·obtain rfl:j=ls.length:=by omega
  rw [decide_eq_true (show 0<ls.length by omega)]
  refine gz ?_
  rw [jy oZ]
  exact fin ⟨C,rfl,hC,rfl⟩ aa
end
end Go.Proofs.YteldablklnfblaaGreatDoor
