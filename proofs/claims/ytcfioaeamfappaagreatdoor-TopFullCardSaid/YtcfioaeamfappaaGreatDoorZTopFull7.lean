/-
  Texts put together (7).
-/
import Derived.Test.YtcfioaeamfappaaGreatDoorZTopFull6
namespace Go.Sl
structure eW where
 used:Bool
 size:Nat
 root:Pt
deriving DecidableEq
def eu:eW:=⟨false,0,ah⟩
def eW.lay (s:eW):List Value:=[.bool s.used,.int .i64 s.size,.int .i64 s.root.top,.int .i64 s.root.at_,.int .i64 s.root.bytes,.int .u64 s.root.bj,.int .i64 s.root.kind,.int .u64 s.root.a,.int .u64 s.root.b,.int .u64 s.root.c,.int .u64 s.root.d]
abbrev eW.agg (s:eW):Value:=.agg #[.bool s.used,.int .i64 s.size,.int .i64 s.root.top,.int .i64 s.root.at_,.int .i64 s.root.bytes,.int .u64 s.root.bj,.int .i64 s.root.kind,.int .u64 s.root.a,.int .u64 s.root.b,.int .u64 s.root.c,.int .u64 s.root.d]
theorem eW.aj (s:eW):s.lay.length=11:=rfl
structure eW.Ok (s:eW):Prop where
 no:s.used=false->s=eu
 size:s.size<=65536
 root:fy s.root=0
 ok:s.root.Ok
theorem uY:eu.Ok:=⟨fun _=>rfl,by simp [eu],by simp [eu,fy],dw⟩
def eX (s:eW):List UInt8:=ae (if s.used then 1 else 0) 1++List.replicate 3 0++ae s.size 4++di s.root
theorem nf (s:eW):(eX s).length=72:=by simp [eX,af,aZ]
def fH (l:List eW):List UInt8:=l.flatMap eX
theorem mA (l:List eW):(fH l).length=72*l.length:=by
 induction l with
 | nil=>rfl
 | cons x r ih=>simp only [fH,List.flatMap_cons,List.length_append,nf,List.length_cons] at *;omega
theorem J3 {l:List eW}{i:Nat}(h:i<l.length):fH (l.take (i+1))=fH (l.take i)++eX l[i]:=by rw [fH,gV h,List.flatMap_append,List.flatMap_singleton];rfl
theorem S5 (s:eW):cut (eX s) 0 1=ae (if s.used then 1 else 0) 1:=by
 simp only [cut,eX,List.drop_zero,List.append_assoc]
 exact List.take_left' (af _ _)
theorem S6 (s:eW):(cut (eX s) 1 3)=List.replicate 3 0:=by
 simp only [cut,eX,List.append_assoc]
 rw [List.drop_left' (af _ _),List.take_left' List.length_replicate]
theorem S7 (s:eW):cut (eX s) 4 4=ae s.size 4:=by
 unfold cut eX
 rw [List.append_assoc,List.drop_left' (by simp [af]),List.take_left' (af _ _)]
theorem S9 (s:eW):cut (eX s) 8 64=di s.root:=by
 unfold cut eX
 rw [List.drop_left' (by simp [af]),List.take_of_length_le (by rw [aZ];omega)]
end Go.Sl
namespace Go.Proofs.YtcfioaeamfappaaGreatDoor
open Go.Sl
set_option maxRecDepth 10000
set_option maxHeartbeats 4000000
theorem V3 (s:eW)(h:s.Ok):Ct 181 [s.agg] [] fun u Bs=>u = .bool true/\Bs=[]:=by
 have h1:=kA s.root h.root
 have hs:=h.size
 cases hu:s.used with
 | false =>
  have h0:=h.no hu
  subst h0
  refine st Tryz.func181 fun w0 => ?_
  refine ga ?_;intro b1
  refine gz ?_
  exact fin ⟨rfl,rfl⟩ aa
 | true =>
  obtain ⟨u,n,r⟩:=s
  simp only at hu hs h1
  subst hu
  dsimp only [eW.agg]
  refine st Tryz.func181 fun w0 => ?_
  refine ga ?_;intro b1
  refine gc h1 ?_
  rintro _ _ ⟨rfl,rfl⟩
  refine gz ?_
  exact fin ⟨rfl,rfl⟩ aa
theorem Ta (p:Nat)(bs:List UInt8)(i k:Nat)(A:Chunk)(hA:n9 p bs i 0 A)(hi:i<=k/\k<=bs.length)(hz:cut bs i (k - i)=List.replicate (k - i) 0):Ct 178 [ptr p,.int .i64 k] [A] fun _ Bs=>∃A',n9 p bs k 0 A'/\Bs=[A']:=by
 obtain ⟨g,hb,rfl⟩:=hA
 have hR:=zo bs hb g
 have hn:k - i=k - i:=rfl
 have hl:(cut bs i (k - i)).length=k - i:=by rw [hz,List.length_replicate]
 have nZ:((ak bs).drop (i*1)).take ((k - i)*1)=ak (List.replicate (k - i) 0):=by
  rw [Nat.mul_one,Nat.mul_one,aY,aL,<-hz];rfl
 refine st Tryz.func178 fun w0 => ?_
 refine gs ?_
 refine ga ?_;intro b1
 refine ga ?_;intro b2
 refine ge ?_
 refine ge ?_
 refine gw ?_;intro ad kr
 refine gl [0,1,29,30] (fun j:Nat=>[(31,.int .i64 j)]) (fun _=>[]) (fun j=>j<=k - i) (fun j=>k - i - j) 0 (Nat.zero_le _) ?_
 rintro j hj
 refine gi ?_ ?_ <;> intro bh
 ·have hx:(List.replicate (k - i) (0:UInt8))[j]? = some 0:=by rw [List.getElem?_replicate,if_pos oZ]
  obtain ⟨b,off,rfl⟩:=kr.addr oZ
  refine gn ?_
  exact ⟨j+1,by omega,by omega,aq,_,aa⟩
 ·refine gz ?_
  exact fin ⟨_,⟨g,hb,rfl⟩,rfl⟩ aa
theorem Tb (O:Chunk)(ad:Option Addr)(n c:Nat)(l:List eW)(hn:l.length=n)(hR:Rd O 11 (.slice ad n c) n (l.flatMap eW.lay))(hb:n<=112)(hp:∀s∈l,s.Ok) :
  Ct 162 [.slice ad n c] [O] fun u Bs=>∃g,u = .tuple #[.slice (some ⟨g,0,none⟩) (72*n) (72*n),.int .i64 0]/\Bs=[[(g,av (ak (fH l)) 5)],O]:=by
 refine st Tryz.func162 fun w0 => ?_
 refine gc (uG (72*n) oZ) ?_
 rintro _ _ ⟨p,A,rfl,hA,rfl⟩
 refine gl [0,4,17,18] (fun ((i,_):Nat×Chunk)=>[(19,.int .i64 i)]) (fun (_,A)=>[A]) (fun (i,A)=>i<=n/\wW p (72*n) (fH (l.take i)) A) (fun (i,_)=>n - i) (0,A) ⟨by omega,hA⟩ ?_
 clear hA
 rintro ⟨i,A⟩ ⟨hi,hA⟩
 have hlen:(fH (l.take i)).length=72*i:=by rw [mA,List.length_take,hn];omega
 refine gi ?_ ?_ <;> intro bh
 ·have bo:i<l.length:=by omega
  obtain ⟨s,J4⟩:∃s,s=l[i]:=⟨_,rfl⟩
  have hx:l[i]? = some s:=by rw [J4];exact List.getElem?_eq_getElem bo
  have hs:=ar eW.aj l i _ hx
  have aQ:=hp s (by rw [J4];exact List.getElem_mem _)
  have bx:=aQ.size
  obtain ⟨g,o,rfl⟩:=hR.addr oZ
  have ac1:=V3 s aQ
  have ac2:=uR s.root aQ.root aQ.ok
  have ac3:=fun A1 h=>fx p (72*n) (fH (l.take i)) A1 (if s.used then 1 else 0) 1 h oZ (by split <;> omega) oZ
  have aa2:=fun A1 h=>HV p (72*n) (fH (l.take i)++ae (if s.used then 1 else 0) 1) A1 (72*i+4) h ⟨by rw [List.length_append,hlen,af];omega,by omega⟩
  rw [show 72*i+4 - (fH (l.take i)++ae (if s.used then 1 else 0) 1).length=3 by rw [List.length_append,hlen,af];omega] at aa2
  have aa3:=fun A1 h=>fx p (72*n) (fH (l.take i)++ae (if s.used then 1 else 0) 1++List.replicate 3 0) A1 s.size 4 h oZ oZ (by simp only [List.length_append,hlen,af,List.length_replicate];omega)
  have pq:=J3 bo
  rw [<-J4] at pq
  have xd:=fun A1 D v h hD=>na p (72*n) (fH (l.take i)++ae (if s.used then 1 else 0) 1++List.replicate 3 0++ae s.size 4) (di s.root) A1 D v h hD (by simp only [List.length_append,hlen,af,List.length_replicate,aZ];omega)
  rw [show fH (l.take i)++ae (if s.used then 1 else 0) 1++List.replicate 3 0++ae s.size 4++di s.root=fH (l.take (i+1)) by rw [pq];simp [eX]] at xd
  have hRe:∀VZ,Rd [(VZ,av (ak (di s.root)) 5)] 1 (.slice (some ⟨VZ,0,none⟩) 64 64) (di s.root).length (ak (di s.root)):=fun VZ=>by
   rw [aZ];exact aw (by rw [ai,aZ]) (aK _) oZ _
  clear pq J4 hx aQ
  obtain ⟨used,size,root⟩:=s
  cases used
  all_goals
   simp only [if_pos,if_neg,Bool.false_eq_true,eW.lay] at *
   refine ga ?_;intro b6
   refine gc ac1 ?_
   rintro _ _ ⟨rfl,rfl⟩
   refine gc ac2 ?_
   rintro _ _ ⟨VZ,rfl,rfl⟩
   refine gc (ac3 A hA) ?_
   rintro _ _ ⟨A1,l6,rfl⟩
   refine gc (aa2 A1 l6) ?_
   rintro _ _ ⟨A2,lr,rfl⟩
   refine gc (aa3 A2 lr) ?_
   rintro _ _ ⟨A3,uQ,rfl⟩
   refine gc (xd A3 _ _ uQ (hRe VZ)) ?_
   rintro _ _ ⟨A4,wY,rfl⟩
   refine gn ?_
   exact ⟨(i+1,A4),⟨by omega,wY⟩,by simp only;omega,aq,_,aa⟩
 ·obtain rfl:i=n:=by omega
  rw [List.take_of_length_le oZ] at hA hlen
  have hD:=n8 p _ (fH l) A hA oZ
  rw [hlen] at hD
  refine gc hD ?_
  rintro _ _ ⟨g,rfl,rfl⟩
  refine gz ?_
  exact fin ⟨g,rfl,rfl⟩ aa
end Go.Proofs.YtcfioaeamfappaaGreatDoor
namespace Go.Sl
def cost (n:Nat):Nat:=if n=0 then 0 else ((n - 1) / 1024+1)+(((n - 1) / 1024+1 - 1) / 16+1)+1
theorem lx {n:Nat}(h:n<=65536):cost n<=69:=by unfold cost;split <;> omega
end Go.Sl
namespace Go.Proofs.YtcfioaeamfappaaGreatDoor
open Go.Sl
set_option maxRecDepth 10000
set_option maxHeartbeats 4000000
theorem Tc (O:Chunk)(ad:Option Addr)(n c k:Nat)(l:List eW)(hk:l.length=k)(hn:n=72*k)(hR:Rd O 1 (.slice ad n c) n (ak (fH l)))(hc:n<=c)(hb:1<=k/\k<=112)(hp:∀s∈l,s.Ok) :
  Ct 128 [.slice ad n c] [O] fun u Bs=>∃ba c' D,u = .tuple #[.slice ba k c',.int .i64 0]/\az D 87 11 (.slice ba k c') k (l.flatMap eW.lay)/\Bs=[D,O]:=by
 subst hn
 have Sd:jl 72 (fH l)=l.map eX:=pG oZ nf l
 have hN:cY (72*k) 72=k:=og oZ oZ
 have hm0:(72*k) % 72=0:=by omega
 refine st Tryz.func128 fun w0 => ?_
 refine gc (rj O ad _ c 72 _ (by rw [mA,hk]) hR hc oZ oZ) ?_
 rintro _ _ ⟨iI,c1,vs,D0,V0,rfl,E7,S0,rfl⟩
 rw [hN] at E7 ⊢
 rw [Sd] at S0
 have uX:=E7.rd
 obtain ⟨g1,o1,rfl⟩:=uX.addr oZ
 refine gl [22,23] (fun ((i,v4,_):Nat×Value×Chunk)=>[(24,.int .i64 i),(4,v4)]) (fun (_,_,D)=>[D]) (fun (i,v4,D)=>i<=k/\(∃pF c4,v4 = .slice pF i c4)/\az D 87 11 v4 i ((l.take i).flatMap eW.lay)) (fun (i,_)=>k - i) (0,.slice none 0 0,[]) ⟨by omega,⟨none,0,rfl⟩,az.nil _ _⟩ ?_
 rintro ⟨i,v4,D⟩ ⟨hi,⟨pF,c4,rfl⟩,hD⟩
 refine gi ?_ ?_ <;> intro bh
 ·have bo:i<l.length:=by omega
  obtain ⟨v,Ym,xl⟩:=S0.rd (i:=i) (by simpa using bo)
  rw [List.getElem_map] at xl
  obtain ⟨s,J4⟩:∃s,s=l[i]:=⟨_,rfl⟩
  rw [<-J4,nf] at xl
  have aQ:=hp s (by rw [J4];exact List.getElem_mem _)
  have bx:=aQ.size
  have aa4:=nf s
  obtain ⟨j2,cv,rfl⟩:=xl.slice
  have e1:=fun p A h=>cj p (eX s) 0 1 A h oZ oZ
  rw [S5,mq (by split <;> omega)] at e1
  obtain ⟨un,yO⟩:∃un:Nat,un=(if s.used=true then 1 else 0):=⟨_,rfl⟩
  have hub:((un:Int)==1)=s.used:=by rw [yO];cases s.used <;> rfl
  have MF:un<=1:=by rw [yO];split <;> omega
  rw [<-yO] at e1
  clear yO
  have e2:=fun p A h=>Ta p (eX s) 1 4 A h oZ (S6 s)
  have e3:=fun p A h=>cj p (eX s) 4 4 A h oZ oZ
  rw [S7,mq oZ] at e3
  have e4:=fun p A h=>pA p (eX s) 8 64 A h oZ
  rw [S9] at e4
  have e5:=fun p A h=>td p (eX s) 72 0 A h oZ
  rw [aa4] at e5
  have e6:=fun b=>uU [(b,av (ak (di s.root)) 5)] (some ⟨b,0,none⟩) 64 s.root aQ.root aQ.ok (aw (by rw [ai,aZ]) (aK _) oZ _)
  have e7:=V3 s aQ
  have e8:(l.take (i+1)).flatMap eW.lay=(l.take i).flatMap eW.lay++s.lay:=by rw [gV bo,<-J4];simp
  have hwc:IntKind.i64.wrap (s.size:Int)=s.size:=IntWalk.i64_in _ oZ
  refine gc (q8 (eX s) 72 aa4 oZ V0 _ xl) ?_
  rintro _ _ ⟨p,A,rfl,hA,rfl⟩
  refine gc (e1 p A hA) ?_
  rintro _ _ ⟨A1,rfl,l6,rfl⟩
  refine gc (e2 p A1 l6) ?_
  rintro _ _ ⟨A2,lr,rfl⟩
  refine gc (e3 p A2 lr) ?_
  rintro _ _ ⟨A3,rfl,uQ,rfl⟩
  have e4:=e4 p A3 uQ
  have e5:=fun A4 h=>e5 p A4 h
  clear aQ J4 e1 e2 e3 hA l6 lr
  refine ga ?_;intro b9
  rw [hub]
  refine gc e4 ?_
  rintro _ _ ⟨A4,b,rfl,wY,rfl⟩
  refine gc (e6 b) ?_
  rintro _ _ ⟨rfl,rfl⟩
  refine ga ?_;intro wV
  refine gc (e5 A4 wY) ?_
  rintro _ _ ⟨rfl,rfl⟩
  refine gc e7 ?_
  rintro _ _ ⟨rfl,rfl⟩
  refine gm ?_;intro b66
  refine gp ?_;intro rf c5 D5 hD5
  refine gn ?_
  exact ⟨(i+1,_,D5),⟨by omega,⟨rf,c5,rfl⟩,by rw [e8];exact hD5⟩,by simp only;omega,aq,_,aa⟩
 ·obtain rfl:i=k:=by omega
  rw [List.take_of_length_le oZ] at hD
  refine gz ?_
  exact fin ⟨pF,c4,D,rfl,hD,rfl⟩ aa
theorem V4 (a b:Nat)(ha:1<=a/\a<=100000)(hb:1<=b)(hb2:b<=100000):Ct 80 [.int .i64 a,.int .i64 b] [] fun u Bs=>u = .int .i64 ((a - 1) / b+1:Nat)/\Bs=[]:=by
 have h1:(a - 1) / b<=a:=Nat.le_trans (Nat.div_le_self _ _) oZ
 refine st Tryz.func80 fun w0 => ?_
 refine gz ?_
 exact fin ⟨rfl,rfl⟩ aa
theorem F8 (n:Nat)(hn:n<=100000):Ct 31 [.int .i64 n] [] fun u Bs=>u = .int .i64 (cost n)/\Bs=[]:=by
 refine st Tryz.func31 fun w0 => ?_
 refine gi ?_ ?_ <;> intro h
 ·obtain rfl:n=0:=by omega
  refine gz ?_
  exact fin ⟨rfl,rfl⟩ aa
 ·have h1:(n - 1) / 1024<=100000:=Nat.le_trans (Nat.div_le_self _ _) oZ
  have h2:((n - 1) / 1024+1 - 1) / 16<=100000:=Nat.le_trans (Nat.div_le_self _ _) oZ
  refine gc (V4 n 1024 oZ oZ oZ) ?_
  rintro _ _ ⟨rfl,rfl⟩
  refine gc (V4 ((n - 1) / 1024+1) 16 oZ oZ oZ) ?_
  rintro _ _ ⟨rfl,rfl⟩
  refine gz ?_
  exact fin ⟨by unfold cost;rw [if_neg oZ],rfl⟩ aa
end Go.Proofs.YtcfioaeamfappaaGreatDoor
namespace Go.Sl
abbrev eF:=List UInt8
structure Dk where
 fj:List eF
 now:List eF
 dead:Bool
structure Wt where
 d:Nat
 at_:Nat
 b:eF
structure Rk where
 ds:List Dk
 ws:List Wt
 left:Option Nat
 off:Bool
inductive Ev where
 | w (d at_:Nat) (b:eF)
 | f (d:Nat)
def Rk.put (R:Rk)(d at_:Nat)(b:eF):Rk:={ R with ds:=R.ds.modify d fun x=>{ x with now:=x.now.set at_ b },ws:=R.ws++[⟨d,at_,b⟩] }
def Rk.ev (R:Rk):Ev->Rk
 | .w d a b=>if R.off then R else match R.left with
  | none=>R.put d a b
  | some 0=>{ R with off:=true,left:=none }
  | some (n+1)=>{ R.put d a b with left:=some n }
 | .f d=>if R.off then R else { R with ds:=R.ds.modify d fun x=>{ x with fj:=x.now },ws:=R.ws.filter fun w=>w.d != d }
def Rk.run (R:Rk)(l:List Ev):Rk:=l.foldl Rk.ev R
def Rk.size (R:Rk)(d:Nat):Nat:=((R.ds[d]?).map (·.now.length)).getD 0
def Rk.now (R:Rk)(d a:Nat):eF:=((R.ds[d]?).bind (·.now[a]?)).getD []
def Rk.pl (R:Rk)(d a:Nat):eF:=((R.ds[d]?).bind (·.fj[a]?)).getD []
def Rk.live (R:Rk)(d:Nat):Prop:=((R.ds[d]?).map (·.dead))=some false
structure Rk.Ok (R:Rk):Prop where
 len:∀x∈R.ds,x.fj.length=x.now.length/\x.now.length<=8192
 sec:∀x∈R.ds,(∀s∈x.fj,s.length=128)/\∀s∈x.now,s.length=128
 ws:∀w∈R.ws,w.at_<R.size w.d/\w.b.length=128
def Ev.ok (R:Rk):Ev->Prop
 | .w d a b=>a<R.size d/\b.length=128
 | .f _=>True
@[simp] theorem Rk.acm (R:Rk):R.run []=R:=rfl
theorem Rk.eY (R:Rk)(e:Ev)(l:List Ev):R.run (e :: l)=(R.ev e).run l:=rfl
theorem Rk.jn (R:Rk)(l m:List Ev):R.run (l++m)=(R.run l).run m:=List.foldl_append
theorem Rk.N3 {R:Rk}(h:R.off=true)(e:Ev):R.ev e=R:=by cases e <;> simp [Rk.ev,h]
theorem Rk.jQ {R:Rk}(h:R.off=true):∀(l:List Ev),R.run l=R
 | []=>rfl
 | e :: l=>by rw [Rk.eY,Rk.N3 h,Rk.jQ h l]
theorem Rk.tg (R:Rk)(e:Ev)(d:Nat):(R.ev e).size d=R.size d:=by
 have hp:∀d' a b,(R.put d' a b).size d=R.size d:=fun d' a b=>by
  simp only [Rk.size,Rk.put,List.getElem?_modify]
  cases hx:R.ds[d]? with
  | none=>simp
  | some x=>by_cases c:d'=d <;> simp [c]
 cases e with
 | w d' a b =>
  simp only [Rk.ev]
  split
  ·rfl
  ·split
   ·exact hp ..
   ·rfl
   ·exact hp ..
 | f d' =>
  simp only [Rk.ev]
  split
  ·rfl
  ·simp only [Rk.size,List.getElem?_modify]
   cases hx:R.ds[d]? with
   | none=>simp
   | some x=>by_cases c:d'=d <;> simp [c]
theorem Rk.dj (R:Rk)(l:List Ev)(d:Nat):(R.run l).size d=R.size d:=by
 induction l generalizing R with
 | nil=>rfl
 | cons e l ih=>rw [Rk.eY,ih,Rk.tg]
theorem Rk.Td (R:Rk)(e:Ev)(d:Nat):(R.ev e).live d↔R.live d:=by
 have hm:∀(d':Nat) (g:Dk->Dk),(∀x,(g x).dead=x.dead)->(((R.ds.modify d' g)[d]?).map (·.dead))=(R.ds[d]?).map (·.dead):=fun d' g hg=>by
  rw [List.getElem?_modify]
  cases hx:R.ds[d]? with
  | none=>simp
  | some x=>by_cases c:d'=d <;> simp [c,hg]
 unfold Rk.live
 cases e with
 | w d' a b =>
  simp only [Rk.ev]
  split
  ·rfl
  ·split
   ·exact Iff.of_eq (congrArg (· = some false) (hm _ _ fun _=>rfl))
   ·rfl
   ·exact Iff.of_eq (congrArg (· = some false) (hm _ _ fun _=>rfl))
 | f d' =>
  simp only [Rk.ev]
  split
  ·rfl
  ·exact Iff.of_eq (congrArg (· = some false) (hm _ _ fun _=>rfl))
theorem Rk.eh (R:Rk)(l:List Ev)(d:Nat):(R.run l).live d↔R.live d:=by
 induction l generalizing R with
 | nil=>rfl
 | cons e l ih=>rw [Rk.eY,ih,Rk.Td]
theorem mem_modify {α:Type}{l:List α}{i:Nat}{g:α->α}{y:α}(h:y∈l.modify i g):∃x∈l,y=x\/(l[i]? = some x/\y=g x):=by
 obtain ⟨j,hj⟩:=List.mem_iff_getElem?.1 h
 rw [List.getElem?_modify] at hj
 cases hx:l[j]? with
 | none=>rw [hx] at hj;simp at hj
 | some x =>
  rw [hx] at hj
  refine ⟨x,List.mem_of_getElem? hx, ?_⟩
  by_cases c:i=j
  ·subst c;simp at hj;exact .inr ⟨hx,hj.symm⟩
  ·simp [c] at hj;exact .inl hj.symm
theorem Rk.Ok.put {R:Rk}(h:R.Ok){d a:Nat}{b:eF}(ha:a<R.size d)(hb:b.length=128):(R.put d a b).Ok:=by
 refine ⟨fun y hy => ?_,fun y hy => ?_,fun w hw => ?_⟩
 ·obtain ⟨x,hx,rfl | ⟨-,rfl⟩⟩:=mem_modify hy
  ·exact h.len _ hx
  ·simpa using h.len _ hx
 ·obtain ⟨x,hx,rfl | ⟨-,rfl⟩⟩:=mem_modify hy
  ·exact h.sec _ hx
  ·refine ⟨(h.sec _ hx).1,fun s hs => ?_⟩
   rcases List.mem_or_eq_of_mem_set hs with hs | rfl
   ·exact (h.sec _ hx).2 s hs
   ·exact hb
 ·have hs:∀d',(R.put d a b).size d'=R.size d':=fun d'=>by
   simp only [Rk.size,Rk.put,List.getElem?_modify]
   cases hx:R.ds[d']? with
   | none=>simp
   | some x=>by_cases c:d=d' <;> simp [c]
  rw [hs]
  rcases List.mem_append.1 hw with hw | hw
  ·exact h.ws _ hw
  ·obtain rfl:=List.mem_singleton.1 hw;exact ⟨ha,hb⟩
theorem Rk.Ok.ev {R:Rk}(h:R.Ok){e:Ev}(he:e.ok R):(R.ev e).Ok:=by
 cases e with
 | w d a b =>
  have hp:=h.put he.1 he.2
  simp only [Rk.ev]
  split
  ·exact h
  ·split
   ·exact hp
   ·exact ⟨h.len,h.sec,h.ws⟩
   ·exact ⟨hp.len,hp.sec,hp.ws⟩
 | f d =>
  have bx:=Rk.tg R (.f d)
  simp only [Rk.ev] at bx ⊢
  split
  ·exact h
  ·rename_i hc
   rw [if_neg hc] at bx
   refine ⟨fun y hy => ?_,fun y hy => ?_,fun w hw => ?_⟩
   ·obtain ⟨x,hx,rfl | ⟨-,rfl⟩⟩:=mem_modify hy
    ·exact h.len _ hx
    ·exact ⟨rfl,(h.len _ hx).2⟩
   ·obtain ⟨x,hx,rfl | ⟨-,rfl⟩⟩:=mem_modify hy
    ·exact h.sec _ hx
    ·exact ⟨(h.sec _ hx).2,(h.sec _ hx).2⟩
   ·rw [bx];exact h.ws _ (List.mem_filter.1 hw).1
theorem Rk.aa5 (R:Rk)(e:Ev):(R.ev e).ws.length<=R.ws.length+1:=by
 cases e with
 | w d a b =>
  simp only [Rk.ev]
  split
  ·omega
  ·split <;> simp [Rk.put]
 | f d =>
  simp only [Rk.ev]
  split
  ·omega
  ·have:=List.length_filter_le (fun w:Wt=>w.d != d) R.ws;simp only;omega
theorem Rk.iJ (R:Rk)(l:List Ev):(R.run l).ws.length<=R.ws.length+l.length:=by
 induction l generalizing R with
 | nil=>simp
 | cons e l ih=>have:=ih (R.ev e);have:=R.aa5 e;rw [Rk.eY,List.length_cons];omega
def fS (d a:Nat):List eF->List Ev
 | []=>[]
 | b :: l=>.w d a b :: fS d (a+1) l
theorem fm (d a:Nat)(l:List eF):(fS d a l).length=l.length:=by
 induction l generalizing a with
 | nil=>rfl
 | cons b l ih=>simp [fS,ih]
theorem uZ (d a:Nat)(l m:List eF):fS d a (l++m)=fS d a l++fS d (a+l.length) m:=by
 induction l generalizing a with
 | nil=>simp [fS]
 | cons b l ih=>simp only [List.cons_append,fS,ih,List.length_cons];rw [show a+1+l.length=a+(l.length+1) by omega]
structure Dq where
 q:Nat
 g1:Nat
 g2:Nat
theorem fT:∀ {l:List eF},(∀s∈l,s.length=128)->l.flatten.length=l.length*128
 | [],_=>rfl
 | s :: l,h=>by
  have h1:=h s (List.mem_cons_self ..)
  have h2:=fT (l:=l) fun t ht=>h t (List.mem_cons_of_mem _ ht)
  rw [List.flatten_cons,List.length_append,h1,h2,List.length_cons];omega
theorem u1:∀ {l:List eF} (_:∀s∈l,s.length=128) (i:Nat),l.flatten.take (i*128)=(l.take i).flatten
 | [],_,i=>by simp
 | s :: l,h,0=>by simp
 | s :: l,h,i+1=>by
  have h1:=h s (List.mem_cons_self ..)
  have h2:=u1 (l:=l) (fun t ht=>h t (List.mem_cons_of_mem _ ht)) i
  rw [List.flatten_cons,List.take_succ_cons,List.flatten_cons,List.take_append,h1,List.take_of_length_le oZ,show (i+1)*128 - 128=i*128 by omega,h2]
theorem pH:∀ {l:List eF} (_:∀s∈l,s.length=128) (i:Nat),l.flatten.drop (i*128)=(l.drop i).flatten
 | [],_,i=>by simp
 | s :: l,h,0=>by simp
 | s :: l,h,i+1=>by
  have h1:=h s (List.mem_cons_self ..)
  have h2:=pH (l:=l) (fun t ht=>h t (List.mem_cons_of_mem _ ht)) i
  rw [List.flatten_cons,List.drop_succ_cons,List.drop_append,h1,List.drop_of_length_le oZ,show (i+1)*128 - 128=i*128 by omega,h2,List.nil_append]
theorem Te {l:List eF}(h:∀s∈l,s.length=128){i:Nat}(b:eF)(hi:i<l.length):l.flatten.take (i*128)++b++l.flatten.drop (i*128+128)=(l.set i b).flatten:=by
 rw [u1 h,show i*128+128=(i+1)*128 by omega,pH h,List.set_eq_take_append_cons_drop,if_pos hi,List.flatten_append,List.flatten_cons,List.append_assoc]
theorem F9 {l ys:List Value}{n m:Nat}(hl:l.length=m)(h:m<=n):l.take 0++ys.take (min n m)++l.drop (0+min n m)=ys.take m:=by
 rw [Nat.min_eq_right h,List.take_zero,List.nil_append,Nat.zero_add,List.drop_of_length_le (l:=l) oZ,List.append_nil]
def Wt.lay (qs:List Nat)(w:Wt):List Value:=[ptr (qs.getD w.d 0),.int .i64 w.at_]++ak w.b
abbrev wl (qs:List Nat)(ws:List Wt):List Value:=ws.flatMap (Wt.lay qs)
def sO:Option Nat->Int
 | none => -1
 | some n=>n
def Rk.rn (R:Rk)(i a m:Nat):List UInt8:=((((R.ds[i]?).map (·.now)).getD []).drop a |>.take m).flatten
end Go.Sl
namespace Go.Proofs.YtcfioaeamfappaaGreatDoor
open Go.Sl
set_option maxRecDepth 10000
abbrev dkO (p g1 g2 n:Nat)(f:Bool):Obj:=av [ptr p,.slice (some ⟨g1,0,none⟩) (n*128) (n*128),.slice (some ⟨g2,0,none⟩) (n*128) (n*128),.bool f] 96
abbrev LQ (vw:Value)(left:Option Nat)(off:Bool)(z:Int)(vd:Value):Obj:=av [vw,.int .i64 (sO left),.bool off,.int .i64 z,vd] 94
abbrev bO (b:List eF):Obj:=av (ak b.flatten) 5
abbrev Tf (p q g1 g2:Nat)(d:Dk)(T:Chunk):Chunk:=[(q,dkO p g1 g2 d.now.length d.dead)]++([(g1,bO d.fj)]++([(g2,bO d.now)]++T))
def rp (p:Nat):List Dq->List Dk->Chunk
 | x :: xs,d :: ds=>Tf p x.q x.g1 x.g2 d (rp p xs ds)
 | _,_=>[]
theorem th (p:Nat):∀ {xs:List Dq} {ds:List Dk} (xs':List Dq) (ds':List Dk),xs.length=ds.length->rp p (xs++xs') (ds++ds')=rp p xs ds++rp p xs' ds'
 | [],[],_,_,_=>rfl
 | x :: xs,d :: ds,xs',ds',h=>by
  simp only [List.cons_append,rp,th p (xs:=xs) (ds:=ds) xs' ds' (by simpa using h),List.append_assoc]
def br (p:Nat)(qs:List Nat)(R:Rk)(C:Chunk):Prop:=∃(xs:List Dq) (vw vd:Value) (Cw Cd:Chunk) (z:Int),xs.map (·.q)=qs/\qs.Nodup/\xs.length=R.ds.length/\R.Ok/\(∀n,R.left=some n->n<9223372036854775808) /\
 az Cw 136 130 vw R.ws.length (wl qs R.ws)/\az Cd 47 1 vd qs.length (qs.map ptr)/\C=[(p,LQ vw R.left R.off z vd)]++(Cw++(Cd++rp p xs R.ds))
theorem br.ok {p:Nat}{qs:List Nat}{R:Rk}{C:Chunk}(h:br p qs R C):R.Ok:=by obtain ⟨xs,vw,vd,Cw,Cd,z, -, -, -,h, -⟩:=h;exact h
theorem br.len {p:Nat}{qs:List Nat}{R:Rk}{C:Chunk}(h:br p qs R C):qs.length=R.ds.length:=by obtain ⟨xs,vw,vd,Cw,Cd,z,h1, -,h3, -⟩:=h;rw [<-h1,List.length_map,h3]
structure Cu (p:Nat)(qs:List Nat)(i q:Nat)(R:Rk)(C:Chunk)(vw vd:Value)(Cw Cd A B:Chunk)(z:Int)(g1 g2:Nat)(pI qF:List Dk)(d:Dk):Prop where
 nd:qs.Nodup
 ds:R.ds=pI++d :: qF
 at_:pI.length=i
 ok:R.Ok
 lf:∀n,R.left=some n->n<9223372036854775808
 bw:az Cw 136 130 vw R.ws.length (wl qs R.ws)
 eq:C=[(p,LQ vw R.left R.off z vd)]++(Cw++(Cd++(A++Tf p q g1 g2 d B)))
 back:∀ {R':Rk} {vw':Value} {Cw':Chunk} {z':Int} {d':Dk},R'.ds=pI++d' :: qF->R'.Ok->(∀n,R'.left=some n->n<9223372036854775808)->az Cw' 136 130 vw' R'.ws.length (wl qs R'.ws)->br p qs R' ([(p,LQ vw' R'.left R'.off z' vd)]++(Cw'++(Cd++(A++Tf p q g1 g2 d' B))))
theorem br.open {p:Nat}{qs:List Nat}{R:Rk}{C:Chunk}{i q:Nat}(h:br p qs R C)(hq:qs[i]? = some q):∃vw vd Cw Cd A B z g1 g2 pI qF d,Cu p qs i q R C vw vd Cw Cd A B z g1 g2 pI qF d:=by
 obtain ⟨xs,vw,vd,Cw,Cd,z,hx,hn,hl,aQ,hlf,hw,hd,rfl⟩:=h
 subst hx
 rw [List.getElem?_map] at hq
 cases uW:xs[i]? with
 | none=>rw [uW] at hq;cases hq
 | some x =>
  rw [uW] at hq
  cases hq
  obtain ⟨hi,yc⟩:=List.getElem?_eq_some_iff.1 uW
  have jg:i<R.ds.length:=by omega
  have X6:xs=xs.take i++x :: xs.drop (i+1):=by rw [<-yc,<-List.drop_eq_getElem_cons,List.take_append_drop]
  have A8:R.ds=R.ds.take i++R.ds[i] :: R.ds.drop (i+1):=by rw [<-List.drop_eq_getElem_cons,List.take_append_drop]
  have hdk:∀d',rp p xs (R.ds.take i++d' :: R.ds.drop (i+1))=rp p (xs.take i) (R.ds.take i)++Tf p x.q x.g1 x.g2 d' (rp p (xs.drop (i+1)) (R.ds.drop (i+1))):=fun d'=>by
   conv=>lhs;rw [X6]
   rw [th p _ _ (by simp;omega)];rfl
  refine ⟨vw,vd,Cw,Cd,_,_,z,x.g1,x.g2,R.ds.take i,R.ds.drop (i+1),R.ds[i],hn,A8,by simp;omega,aQ,hlf,hw,by rw [<-hdk,<-A8],fun {R' vw' Cw' z' d'} h1 h2 h3 h4=>⟨xs,vw',vd,Cw',Cd,z',rfl,hn, ?_,h2,h3,h4,hd,by rw [h1,hdk]⟩⟩
  rw [hl,h1]
  simp;omega
section
variable {p:Nat}{qs:List Nat}{i q:Nat}{R:Rk}{C:Chunk}{vw vd:Value}{Cw Cd A B:Chunk}{z:Int}{g1 g2:Nat}{pI qF:List Dk}{d:Dk}
theorem Cu.ix (h:Cu p qs i q R C vw vd Cw Cd A B z g1 g2 pI qF d):R.ds[i]? = some d:=by rw [h.ds,List.getElem?_append_right (by rw [h.at_];omega),h.at_];simp
theorem Cu.size (h:Cu p qs i q R C vw vd Cw Cd A B z g1 g2 pI qF d):R.size i=d.now.length:=by simp [Rk.size,h.ix]
theorem Cu.mem (h:Cu p qs i q R C vw vd Cw Cd A B z g1 g2 pI qF d):d∈R.ds:=List.mem_of_getElem? h.ix
theorem Cu.live (h:Cu p qs i q R C vw vd Cw Cd A B z g1 g2 pI qF d)(hl:R.live i):d.dead=false:=by simpa [Rk.live,h.ix] using hl
theorem Cu.Yn (h:Cu p qs i q R C vw vd Cw Cd A B z g1 g2 pI qF d)(hl:R.live i):C=[(p,LQ vw R.left R.off z vd)]++(Cw++(Cd++(A++([(q,dkO p g1 g2 d.now.length false)]++([(g1,bO d.fj)]++([(g2,bO d.now)]++B)))))):=by rw [<-h.live hl];exact h.eq
theorem Cu.same (h:Cu p qs i q R C vw vd Cw Cd A B z g1 g2 pI qF d):br p qs R ([(p,LQ vw R.left R.off z vd)]++(Cw++(Cd++(A++Tf p q g1 g2 d B)))):=h.back h.ds h.ok h.lf h.bw
theorem Cu.rd (h:Cu p qs i q R C vw vd Cw Cd A B z g1 g2 pI qF d):d.now.length<=8192/\Rd [(g2,bO d.now)] 1 (.slice (some ⟨g2,0,none⟩) (d.now.length*128) (d.now.length*128)) (d.now.length*128) (ak d.now.flatten)/\Rd [(g1,bO d.fj)] 1 (.slice (some ⟨g1,0,none⟩) (d.now.length*128) (d.now.length*128)) (d.now.length*128) (ak d.fj.flatten):=by
 have h1:=h.ok.len d h.mem
 have h2:=h.ok.sec d h.mem
 have e1:=fT h2.1
 have e2:=fT h2.2
 exact ⟨h1.2,aw (by rw [ai,e2];omega) (aK _) oZ _,aw (by rw [ai,e1];omega) (aK _) oZ _⟩
theorem Cu.V5 (h:Cu p qs i q R C vw vd Cw Cd A B z g1 g2 pI qF d)(hl:R.live i):br p qs R ([(p,LQ vw R.left R.off z vd)]++(Cw++(Cd++(A++([(q,dkO p g1 g2 d.now.length false)]++([(g1,bO d.fj)]++([(g2,bO d.now)]++B))))))):=by rw [<-h.Yn hl,h.eq];exact h.same
end
theorem cM (p:Nat)(qs:List Nat)(R:Rk)(C:Chunk)(hC:br p qs R C)(i q:Nat)(hq:qs[i]? = some q):Ct 38 [ptr q] [C] fun u Bs=>u = .int .i64 (R.size i)/\Bs=[C]:=by
 obtain ⟨vw,vd,Cw,Cd,A,B,z,g1,g2,pI,qF,d,hO⟩:=hC.open hq
 have h8:=hO.rd.1
 rw [hO.eq,hO.size]
 refine st Tryz.func38 fun w0 => ?_
 refine gs ?_
 refine gz ?_
 exact fin ⟨congrArg _ oZ,rfl⟩ aa
theorem ng (p:Nat)(qs:List Nat)(R:Rk)(C:Chunk)(hC:br p qs R C)(i q at_ many:Nat)(hq:qs[i]? = some q)(hl:R.live i)(h:at_+many<=R.size i):Ct 125 [ptr q,.int .i64 at_,.int .i64 many] [C] fun u Bs =>
  (R.off=true/\u = .tuple #[.slice none 0 0,.int .i64 5]/\Bs=[C])\/(R.off=false/\∃g,u = .tuple #[.slice (some ⟨g,0,none⟩) (many*128) (many*128),.int .i64 0]/\Bs=[C,[(g,av (ak (R.rn i at_ many)) 5)]]):=by
 obtain ⟨vw,vd,Cw,Cd,A,B,z,g1,g2,pI,qF,d,hO⟩:=hC.open hq
 obtain ⟨h8,hR, -⟩:=hO.rd
 have hs:=hO.ok.sec d hO.mem
 have N4:=hO.live hl
 rw [hO.size] at h
 have J4:R.rn i at_ many=((d.now.drop at_).take many).flatten:=by simp [Rk.rn,hO.ix]
 have jo:=fT (l:=(d.now.drop at_).take many) fun s LR=>hs.2 s (List.mem_of_mem_drop (List.mem_of_mem_take LR))
 rw [List.length_take,List.length_drop,Nat.min_eq_left oZ] at jo
 rw [hO.Yn hl,J4]
 obtain ⟨rds,rws,rl,off⟩:=R
 refine st Tryz.func125 fun w0 => ?_
 refine gs ?_
 refine ge ?_
 cases off with
 | true =>
  refine gz ?_
  exact fin (.inl ⟨rfl,rfl,rfl⟩) aa
 | false =>
  refine ge ?_
  refine ge ?_
  refine ge ?_
  refine gm ?_;intro g
  have hn:d.now.length*128 - at_*128=(d.now.length - at_)*128:=by omega
  have nZ:((ak d.now.flatten).drop (at_*128*1)).take ((d.now.length*128 - at_*128)*1)=ak (d.now.drop at_).flatten:=by
   have e2:=fT (l:=d.now.drop at_) fun s LR=>hs.2 s (List.mem_of_mem_drop LR)
   rw [List.length_drop] at e2
   rw [Nat.mul_one,Nat.mul_one,aY,pH hs.2,List.take_of_length_le (by rw [ai,e2];omega)]
  refine gw ?_;intro ad kr
  have zI:(List.replicate (many*128) (Value.int .u8 0)).take 0++(ak (d.now.drop at_).flatten).take (min ((d.now.length - at_)*128) (many*128))++(List.replicate (many*128) (Value.int .u8 0)).drop (0+min ((d.now.length - at_)*128) (many*128))=ak ((d.now.drop at_).take many).flatten:=by
   rw [F9 (by simp) oZ,aL,u1 (fun s LR=>hs.2 s (List.mem_of_mem_drop LR))]
  refine gy ?_
  refine gz ?_
  exact fin (.inr ⟨rfl,g,rfl,rfl⟩) aa
end Go.Proofs.YtcfioaeamfappaaGreatDoor
namespace Go.Sl
theorem Yo {d a:Nat}{ss:List eF}{j:Nat}{s:eF}(h:ss[j]? = some s):fS d a (ss.take (j+1))=fS d a (ss.take j)++[.w d (a+j) s]/\fS d a ss=fS d a (ss.take (j+1))++fS d (a+(j+1)) (ss.drop (j+1)):=by
 obtain ⟨hj,rfl⟩:=List.getElem?_eq_some_iff.1 h
 constructor
 ·rw [List.take_succ_eq_append_getElem hj,uZ,List.length_take,Nat.min_eq_left oZ];rfl
 ·conv=>lhs;rw [<-List.take_append_drop (j+1) ss]
  rw [uZ,List.length_take,Nat.min_eq_left oZ]
theorem u2 {α:Type}{A B:List α}{x:α}{g:α->α}{i:Nat}(h:A.length=i):(A++x :: B).modify i g=A++g x :: B:=by
 subst h
 induction A with
 | nil=>rfl
 | cons a A ih=>simp [ih]
theorem Wt.aj (qs:List Nat){w:Wt}(h:w.b.length=128):(w.lay qs).length=130:=by simp [Wt.lay,ai,h]
theorem Wt.bC (qs:List Nat)(w:Wt):∀u∈w.lay qs,u.oneCell'=true:=fun u hu=>by
 rcases List.mem_append.1 hu with h | h
 ·simp at h;rcases h with rfl | rfl <;> rfl
 ·exact aK _ u h
theorem Ij (qs:List Nat)(ws:List Wt)(w:Wt):wl qs ws++w.lay qs=wl qs (ws++[w]):=by simp [wl]
theorem aa6 (q a:Nat)(qs:List Nat){i:Nat}(hq:qs[i]? = some q){ys:List UInt8}{n:Nat}(hn:128<=n)(hy:n<=ys.length) :
  ([ptr q,.int .i64 a]++List.replicate 128 (.int .u8 0):List Value).take 2++(ak ys).take (min n 128)++([ptr q,.int .i64 a]++List.replicate 128 (.int .u8 0):List Value).drop (2+min n 128)=Wt.lay qs ⟨i,a,ys.take 128⟩:=by
 have _:=hy
 rw [Nat.min_eq_right hn,show ([ptr q,.int .i64 a]++List.replicate 128 (.int .u8 0):List Value).take 2=[ptr q,.int .i64 a] from rfl,aL,show ([ptr q,.int .i64 a]++List.replicate 128 (.int .u8 0):List Value).drop (2+128)=[] from rfl,List.append_nil,Wt.lay]
 simp [List.getD,hq]
end Go.Sl
namespace Go.Proofs.YtcfioaeamfappaaGreatDoor
open Go.Sl
set_option maxRecDepth 10000
theorem kE (p:Nat)(qs:List Nat)(R:Rk)(C:Chunk)(hC:br p qs R C)(i q at_ m:Nat)(ss:List eF)(O:Chunk)(ad:Option Addr)(c:Nat)(hq:qs[i]? = some q)(hl:R.live i)(Ik:∀s∈ss,s.length=128)(hm:ss.length=m)(h:at_+m<=R.size i)
  (hO:Rd O 1 (.slice ad (m*128) c) (m*128) (ak ss.flatten)) (hc:m*128<=c) (hw:R.ws.length+m<=900000000000):Ct 90 [ptr q,.int .i64 at_,.slice ad (m*128) c] [C,O] fun u Bs =>
  ∃C',u = .int .i64 (if (R.run (fS i at_ ss)).off then 5 else 0)/\br p qs (R.run (fS i at_ ss)) C'/\Bs=[C',O]:=by
 subst hm
 have nD:=hC.ok
 cases ho:R.off with
 | true =>
  rw [Rk.jQ ho]
  obtain ⟨vw,vd,Cw,Cd,A,B,z,g1,g2,pI,qF,d,hX⟩:=hC.open hq
  rw [hX.Yn hl,ho]
  have hb:=hX.V5 hl
  rw [ho] at hb
  refine st Tryz.func90 fun w0 => ?_
  refine gs ?_
  refine ge ?_
  refine gz ?_
  exact fin ⟨_,rfl,hb,rfl⟩ aa
 | false =>
 obtain ⟨vw,vd,Cw,Cd,A,B,z,g1,g2,pI,qF,d,hX⟩:=hC.open hq
 obtain ⟨h8, -, -⟩:=hX.rd
 have N4:=hX.live hl
 have A8:R.ds=pI++⟨d.fj,d.now,false⟩ :: qF:=by rw [hX.ds,<-N4]
 rw [hX.size] at h
 rw [hX.Yn hl,ho]
 refine st Tryz.func90 fun w0 => ?_
 refine gs ?_
 refine ge ?_
 refine ge ?_
 refine ge ?_
 refine ge ?_
 refine gl [0,1,2,29,31] (fun ((j,_):Nat×Rk×Value×Chunk×Int×List eF)=>[(32,.int .i64 j)]) (fun (_,R',vw,Cw,z,nw)=>[[(p,LQ vw R'.left false z vd)],Cw,[(g2,bO nw)]])
  (fun (j,R',vw,Cw,z,nw)=>j<=ss.length/\R.run (fS i at_ (ss.take j))=R'/\R'.off=false/\R'.ds=pI++⟨d.fj,nw,false⟩ :: qF/\nw.length=d.now.length/\R'.Ok/\(∀n,R'.left=some n->n<9223372036854775808)/\R'.ws.length<=R.ws.length+j/\az Cw 136 130 vw R'.ws.length (wl qs R'.ws))
  (fun (j,_)=>ss.length - j) (0,R,vw,Cw,z,d.now) ⟨Nat.zero_le _,rfl,ho,A8,rfl,nD,hX.lf,by omega,hX.bw⟩ ?_
 rintro ⟨j,R',vw,Cw,z,nw⟩ ⟨hj,dC,dN,N5,LS,sP,Yp,FW,hBw⟩
 have hd':d=⟨d.fj,d.now,false⟩:=by rw [<-N4]
 refine gi ?_ ?_ <;> intro bh
 ·have oV:j<ss.length:=by omega
  obtain ⟨s,hs⟩:=eB oV
  have fM:=Ik s (List.mem_of_getElem? hs)
  obtain ⟨Yq,R4⟩:=Yo (d:=i) (a:=at_) hs
  have hev:R.run (fS i at_ (ss.take (j+1)))=R'.ev (.w i (at_+j) s):=by rw [Yq,Rk.jn,dC];rfl
  have bL:(R'.put i (at_+j) s).ds=pI++⟨d.fj,nw.set (at_+j) s,false⟩ :: qF:=by
   simp only [Rk.put,N5];rw [u2 hX.at_]
  have qR:(⟨d.fj,nw,false⟩:Dk)∈R'.ds:=by rw [N5];simp
  have u3:∀t∈nw,t.length=128:=(sP.sec _ qR).2
  have bx:R'.size i=nw.length:=by
   simp only [Rk.size,N5];rw [List.getElem?_append_right (by rw [hX.at_];omega),hX.at_];simp
  have Yr:(R'.put i (at_+j) s).Ok:=sP.put (by rw [bx];omega) fM
  by_cases h0:R'.left=some 0
  ·have nE:R.run (fS i at_ ss)={ R' with off:=true,left:=none }:=by
    rw [R4,Rk.jn,hev,show R'.ev (.w i (at_+j) s)={ R' with off:=true,left:=none } by simp [Rk.ev,dN,h0],Rk.jQ rfl]
   rw [h0]
   refine gz ?_
   rw [nE]
   exact fin ⟨_,rfl,hX.back (R':={ R' with off:=true,left:=none }) (vw':=vw) (Cw':=Cw) (z':=z) (d':=⟨d.fj,nw,false⟩) N5 ⟨sP.len,sP.sec,sP.ws⟩ (fun n hn=>by cases hn) hBw,rfl⟩ (by rw [<-LS];exact aa)
  ·obtain ⟨l',lT,xm,ac4⟩:∃l',(if 0<sO R'.left then sO R'.left - 1 else sO R'.left)=sO l'/\(∀n,l'=some n->n<9223372036854775808)/\R'.ev (.w i (at_+j) s)={ R'.put i (at_+j) s with left:=l' }:=by
    cases hle:R'.left with
    | none=>exact ⟨none,rfl,(fun n hn=>by cases hn),by simp [Rk.ev,dN,hle,Rk.put]⟩
    | some n =>
     cases n with
     | zero=>exact absurd hle h0
     | succ n=>exact ⟨some n,by simp only [sO];omega,(fun k hk=>by cases hk;have:=Yp _ hle;omega),by simp [Rk.ev,dN,hle]⟩
   have RD:sO R'.left≠0:=by
    cases hle:R'.left with
    | none=>decide
    | some n=>simp only [sO];intro q0;exact h0 (by rw [hle];congr 1;omega)
   have LU:sO R'.left<9223372036854775808 /\ -1<=sO R'.left:=by
    cases hle:R'.left with
    | none=>decide
    | some n=>have:=Yp n hle;simp only [sO];omega
   have A0:(ss.length*128 - j*128)=(ss.length - j)*128:=by omega
   have sQ:=fT (l:=ss.drop j) fun t ht=>Ik t (List.mem_of_mem_drop ht)
   rw [List.length_drop] at sQ
   have nZ:((ak ss.flatten).drop (j*128*1)).take ((ss.length*128 - j*128)*1)=ak (ss.drop j).flatten:=by
    rw [Nat.mul_one,Nat.mul_one,aY,pH Ik,List.take_of_length_le (by rw [ai,sQ];omega)]
   have zI:=aa6 q (at_+j) qs hq (ys:=(ss.drop j).flatten) (n:=(ss.length - j)*128) oZ oZ
   have hsj:(ss.drop j).flatten.take 128=s:=by
    obtain ⟨_,rfl⟩:=List.getElem?_eq_some_iff.1 hs
    rw [List.drop_eq_getElem_cons oV,List.flatten_cons,List.take_left' fM]
   rw [hsj] at zI
   have u4:=Wt.aj qs (w:=⟨i,at_+j,s⟩) fM
   have fE:=Wt.bC qs ⟨i,at_+j,s⟩
   have eQ:=Te u3 s (i:=at_+j) (show at_+j<nw.length by omega)
   have hrs:(R'.put i (at_+j) s).ws.length<=R.ws.length+(j+1):=by simp [Rk.put];omega
   have jo:=fT u3
   have hn8:(at_+j+1)*128 - (at_+j)*128=128:=by omega
   have ae5:(ak nw.flatten).take ((at_+j)*128)++(ak s).take (min 128 128)++(ak nw.flatten).drop ((at_+j)*128+min 128 128)=ak (nw.set (at_+j) s).flatten:=by
    rw [Nat.min_self,aL,aY,aL,<-aE,<-aE,List.take_of_length_le (l:=s) oZ,eQ]
   have nE:∀(v3:Value) (C3:Chunk) (z':Int),az C3 136 130 v3 (R'.ws.length+1) (wl qs (R'.ws++[(⟨i,at_+j,s⟩:Wt)]))->j+1<=ss.length/\R.run (fS i at_ (ss.take (j+1)))={ R'.put i (at_+j) s with left:=l' }/\({ R'.put i (at_+j) s with left:=l' }:Rk).off=false/\({ R'.put i (at_+j) s with left:=l' }:Rk).ds=pI++⟨d.fj,nw.set (at_+j) s,false⟩ :: qF/\(nw.set (at_+j) s).length=d.now.length/\({ R'.put i (at_+j) s with left:=l' }:Rk).Ok/\(∀n,l'=some n->n<9223372036854775808)/\(R'.ws++[(⟨i,at_+j,s⟩:Wt)]).length<=R.ws.length+(j+1)/\az C3 136 130 v3 (R'.ws++[(⟨i,at_+j,s⟩:Wt)]).length (wl qs (R'.ws++[(⟨i,at_+j,s⟩:Wt)])):=fun v3 C3 z' hb =>
    ⟨by omega,by rw [hev,ac4],dN,bL,by rw [List.length_set];exact LS,⟨Yr.len,Yr.sec,Yr.ws⟩,xm,hrs,by rw [List.length_append];exact hb⟩
   rcases Int.lt_or_le 0 (sO R'.left) with Jm | Jm
   ·rw [if_pos Jm] at lT
    refine ga ?_;intro bw
    have hrp:Rd [(bw,av (Wt.lay qs ⟨i,at_+j,s⟩) 136)] 1 (.slice (some ⟨bw,2,none⟩) 128 128) 128 (ak s):=by
     have:=s8 (g:=bw) (T:=136) (m:=128) [ptr (qs.getD i 0),.int .i64 (at_+j:Nat)] (ak s) [] (by rw [ai,fM]) (aK s) oZ 128
     rwa [List.append_nil] at this
    refine gw ?_;intro ad2 kr
    refine gy ?_
    refine gd [2,4,8,12,16,20,25,31,34,38,43] ?_
    refine gm ?_;intro b5
    have V6:Rd [(b5,av (Wt.lay qs ⟨i,at_+j,s⟩) 136)] 130 (.slice (some ⟨b5,0,none⟩) 1 1) 1 (Wt.lay qs ⟨i,at_+j,s⟩):=aw (by rw [u4]) fE oZ _
    refine gp ?_;intro fJ c3 C3 ka
    rw [Ij] at ka
    refine gd [0,4,8,12,16,20,24,28,36,40,33,47] ?_
    refine ge ?_
    refine gv ?_
    refine gy ?_
    refine gn ?_
    rw [lT]
    exact ⟨(j+1,{ R'.put i (at_+j) s with left:=l' },_,C3,_,nw.set (at_+j) s),nE _ C3 (IntKind.i64.wrap (z+1)) ka,by simp only;omega,aq,_,aa⟩
   ·rw [if_neg oZ] at lT
    refine ga ?_;intro bw
    have hrp:Rd [(bw,av (Wt.lay qs ⟨i,at_+j,s⟩) 136)] 1 (.slice (some ⟨bw,2,none⟩) 128 128) 128 (ak s):=by
     have:=s8 (g:=bw) (T:=136) (m:=128) [ptr (qs.getD i 0),.int .i64 (at_+j:Nat)] (ak s) [] (by rw [ai,fM]) (aK s) oZ 128
     rwa [List.append_nil] at this
    refine gw ?_;intro ad2 kr
    refine gy ?_
    refine gd [2,4,8,12,16,20,25,31,34,38,43] ?_
    refine gm ?_;intro b5
    have V6:Rd [(b5,av (Wt.lay qs ⟨i,at_+j,s⟩) 136)] 130 (.slice (some ⟨b5,0,none⟩) 1 1) 1 (Wt.lay qs ⟨i,at_+j,s⟩):=aw (by rw [u4]) fE oZ _
    refine gp ?_;intro fJ c3 C3 ka
    rw [Ij] at ka
    refine gd [0,4,8,12,16,20,24,28,36,40,33,47] ?_
    refine ge ?_
    refine gv ?_
    refine gy ?_
    refine gn ?_
    rw [lT]
    exact ⟨(j+1,{ R'.put i (at_+j) s with left:=l' },_,C3,_,nw.set (at_+j) s),nE _ C3 (IntKind.i64.wrap (z+1)) ka,by simp only;omega,aq,_,aa⟩
 ·obtain rfl:j=ss.length:=by omega
  rw [List.take_length] at dC
  refine gz ?_
  rw [dC,dN]
  exact fin ⟨_,rfl,by have:=hX.back (R':=R') (vw':=vw) (Cw':=Cw) (z':=z) (d':=⟨d.fj,nw,false⟩) N5 sP Yp hBw;rw [dN] at this;exact this,rfl⟩ (by rw [<-LS];exact aa)
end Go.Proofs.YtcfioaeamfappaaGreatDoor
namespace Go.Sl
def out (i:Nat)(ws:List Wt):List Wt:=ws.filter fun w=>w.d != i
theorem Cy {i:Nat}{ws:List Wt}{j:Nat}{w:Wt}(h:ws[j]? = some w):out i (ws.take (j+1))=out i (ws.take j)++(if w.d=i then [] else [w]):=by
 obtain ⟨hj,rfl⟩:=List.getElem?_eq_some_iff.1 h
 rw [List.take_succ_eq_append_getElem hj,out,out,List.filter_append]
 by_cases c:ws[j].d=i <;> simp [c]
theorem Ga (i:Nat)(ws:List Wt)(j:Nat):(out i (ws.take j)).length<=j:=Nat.le_trans (List.length_filter_le ..) (by simp;omega)
theorem zJ (qs:List Nat):∀ {ws:List Wt},(∀w∈ws,w.b.length=128)->(wl qs ws).length=ws.length*130
 | [],_=>rfl
 | w :: ws,h=>by
  have h1:=Wt.aj qs (h w (List.mem_cons_self ..))
  have h2:=zJ qs (ws:=ws) fun t ht=>h t (List.mem_cons_of_mem _ ht)
  rw [wl,List.flatMap_cons,List.length_append,h1,List.length_cons]
  rw [wl] at h2;omega
theorem N6 (qs:List Nat){ws:List Wt}(h:∀w∈ws,w.b.length=128){j:Nat}{w:Wt}(hj:ws[j]? = some w):Sub (j*130) (w.lay qs) (wl qs ws):=by
 induction ws generalizing j with
 | nil=>cases hj
 | cons x l ih =>
  have hx:=Wt.aj qs (h x (List.mem_cons_self ..))
  intro k u hu
  cases j with
  | zero =>
   cases hj
   rw [Nat.zero_mul,Nat.zero_add,wl,List.flatMap_cons,List.getElem?_append_left (List.getElem?_eq_some_iff.1 hu).1];exact hu
  | succ j =>
   rw [wl,List.flatMap_cons,List.getElem?_append_right (by rw [hx];omega),hx,show (j+1)*130+k - 130=j*130+k by omega]
   exact ih (fun t ht=>h t (List.mem_cons_of_mem _ ht)) hj k u hu
structure Dr (qs:List Nat)(i:Nat)(ws:List Wt)(l0 l:List Value)(j:Nat):Prop where
 len:l.length=l0.length
 hd:l.take ((out i (ws.take j)).length*130)=wl qs (out i (ws.take j))
 tl:l.drop (j*130)=l0.drop (j*130)
theorem Dr.sub {qs:List Nat}{i:Nat}{ws:List Wt}{r l:List Value}{j:Nat}{w:Wt}(h:Dr qs i ws (wl qs ws++r) l j)(hb:∀w∈ws,w.b.length=128)(hj:ws[j]? = some w):Sub (j*130) (w.lay qs) l:=fun k u hu=>by
 have h1:=N6 qs hb hj k u hu
 have h2:(l.drop (j*130))[k]? = ((wl qs ws++r).drop (j*130))[k]?:=by rw [h.tl]
 rw [List.getElem?_drop,List.getElem?_drop,List.getElem?_append_left (List.getElem?_eq_some_iff.1 h1).1,h1] at h2
 exact h2
theorem Dr.put {qs:List Nat}{i:Nat}{ws:List Wt}{l0 l:List Value}{j:Nat}{w:Wt}(h:Dr qs i ws l0 l j)(hw:w.b.length=128)(hj:ws[j]? = some w)(eP:w.d≠i)(hl:(j+1)*130<=l.length) :
  (out i (ws.take (j+1))).length=(out i (ws.take j)).length+1/\Dr qs i ws l0 (l.take ((out i (ws.take j)).length*130)++w.lay qs++l.drop (((out i (ws.take j)).length+1)*130)) (j+1):=by
 have h1:=Cy (i:=i) hj
 rw [if_neg eP] at h1
 have hk:=Ga i ws j
 have h2:=Wt.aj qs hw
 have h3:(out i (ws.take (j+1))).length=(out i (ws.take j)).length+1:=by rw [h1];simp
 have ht:(l.take ((out i (ws.take j)).length*130)++w.lay qs).length=((out i (ws.take j)).length+1)*130:=by rw [List.length_append,List.length_take,h2];omega
 refine ⟨h3, ?_, ?_, ?_⟩
 ·rw [List.length_append,ht,List.length_drop,<-h.len];omega
 ·rw [h3,List.take_left' ht,h.hd,h1,wl,wl,List.flatMap_append];simp
 ·rw [List.drop_append,ht,List.drop_of_length_le (by rw [ht];omega),List.nil_append,List.drop_drop,show ((out i (ws.take j)).length+1)*130+((j+1)*130 - ((out i (ws.take j)).length+1)*130)=j*130+130 by omega,<-List.drop_drop,h.tl,List.drop_drop]
  congr 1;omega
theorem Dr.skip {qs:List Nat}{i:Nat}{ws:List Wt}{l0 l:List Value}{j:Nat}{w:Wt}(h:Dr qs i ws l0 l j)(hj:ws[j]? = some w)(he:w.d=i):(out i (ws.take (j+1))).length=(out i (ws.take j)).length/\Dr qs i ws l0 l (j+1):=by
 have h1:=Cy (i:=i) hj
 rw [if_pos he,List.append_nil] at h1
 refine ⟨by rw [h1],h.len,by rw [h1];exact h.hd, ?_⟩
 rw [show (j+1)*130=j*130+130 by omega,<-List.drop_drop,h.tl,List.drop_drop]
end Go.Sl
namespace Go.Proofs.YtcfioaeamfappaaGreatDoor
open Go.Sl
set_option maxRecDepth 10000
theorem tj (p:Nat):∀ {xs:List Dq} {ds:List Dk} {x:Dq},xs.length=ds.length->x∈xs->JC (rp p xs ds) x.q
 | y :: xs,d :: ds,x,h,hx=>by
  rcases List.mem_cons.1 hx with rfl | hx
  ·exact ⟨_,_,List.mem_cons_self ..⟩
  ·obtain ⟨l,T,hm⟩:=tj p (xs:=xs) (ds:=ds) (by simpa using h) hx
   exact ⟨l,T,by simp only [rp,Tf];simp [hm]⟩
theorem Tg (p:Nat)(qs:List Nat)(R:Rk)(C:Chunk)(hC:br p qs R C)(i q:Nat)(hq:qs[i]? = some q):Ct 142 [ptr p,ptr q] [C] fun _ Bs=>∃C',br p qs { R with ws:=out i R.ws } C'/\Bs=[C']:=by
 obtain ⟨xs,vw,vd,Cw,Cd,z,hx,hn,hl,aQ,hlf,hw,hd,rfl⟩:=hC
 obtain ⟨D,hD⟩:∃D,D=rp p xs R.ds:=⟨_,rfl⟩
 have hpb:∀a b qa qb,qs[a]? = some qa->qs[b]? = some qb->PB D qa qb:=fun a b qa qb ha hb=>by
  refine .inr ⟨?_, ?_⟩
  ·have:=List.mem_of_getElem? ha;rw [<-hx] at this;obtain ⟨x,Cq,rfl⟩:=List.mem_map.1 this;rw [hD];exact tj p hl Cq
  ·have:=List.mem_of_getElem? hb;rw [<-hx] at this;obtain ⟨x,Cq,rfl⟩:=List.mem_map.1 this;rw [hD];exact tj p hl Cq
 have ac5:({ R with ws:=out i R.ws }:Rk).Ok:=⟨aQ.len,aQ.sec,fun w hw=>aQ.ws w (List.mem_filter.1 hw).1⟩
 have back:∀ {vw' Cw'},az Cw' 136 130 vw' (out i R.ws).length (wl qs (out i R.ws))->br p qs { R with ws:=out i R.ws } ([(p,LQ vw' R.left R.off z vd)]++(Cw'++(Cd++D))):=fun {vw' Cw'} hb=>⟨xs,vw',vd,Cw',Cd,z,hx,hn,hl,ac5,hlf,hb,hd,by rw [hD]⟩
 rw [<-hD]
 rcases hw.2.2 with ⟨rfl,h0,rfl⟩ | ⟨g,c,r,rfl,rfl,hc,lS,hlen⟩
 ·have Cz:=List.eq_nil_of_length_eq_zero h0
  rw [h0] at *
  refine st Tryz.func142 fun w0 => ?_
  refine gs ?_
  refine gl [0,1,4,14,16] (fun i:Nat=>[(17,.int .i64 i)]) (fun _=>[]) (fun i=>i<=0) (fun _=>0) 0 (Nat.le_refl _) ?_
  intro j hj
  refine gz ?_
  exact fin ⟨_,back (vw':=.slice none 0 0) (Cw':=[]) (by rw [Cz];exact az.nil _ _),rfl⟩ aa
 ·have N7:∀w∈R.ws,w.b.length=128:=fun w hw=>(aQ.ws w hw).2
  have afq:=zJ qs N7
  simp only [maxLen] at lS
  refine st Tryz.func142 fun w0 => ?_
  refine gs ?_
  refine gv ?_
  refine gl [0,1,15,16] (fun ((j,_):Nat×List Value)=>[(17,.int .i64 j),(4,.slice (some ⟨g,0,none⟩) (out i (R.ws.take j)).length c)]) (fun (_,l)=>[[(g,av l 136)]]) (fun (j,l)=>j<=R.ws.length/\Dr qs i R.ws (wl qs R.ws++r) l j) (fun (j,_)=>R.ws.length - j) (0,wl qs R.ws++r) ⟨Nat.zero_le _,rfl,by simp [out],rfl⟩ ?_
  rintro ⟨j,l⟩ ⟨hj,jq⟩
  have iK:l.length=c*130:=by rw [jq.len,<-hlen];simp
  have hkj:=Ga i R.ws j
  refine gi ?_ ?_ <;> intro bh
  ·obtain ⟨w,Ys⟩:=eB (show j<R.ws.length by omega)
   have N8:=List.mem_of_getElem? Ys
   have j3:=jq.sub N7 Ys
   have u4:=Wt.aj qs (N7 w N8)
   have fE:=Wt.bC qs w
   have j4:w.d<qs.length:=by
    have h1:=(aQ.ws w N8).1
    rcases Nat.lt_or_ge w.d R.ds.length with h2 | h2
    ·rw [<-hx,List.length_map,hl];exact h2
    ·simp [Rk.size,h2] at h1
   have hqw:qs[w.d]? = some (qs.getD w.d 0):=by simp [List.getD,j4]
   have hP:=hpb w.d i _ q hqw hq
   refine ga ?_;intro b6
   refine gi ?_ ?_ <;> intro eP
   ·have ac6:w.d≠i:=fun e=>by
     have h1:qs.getD w.d 0=q:=by simp [List.getD,e,hq]
     simp only [h1] at eP;simp at eP
    obtain ⟨h3,eo⟩:=jq.put (N7 w N8) Ys ac6 oZ
    refine gm ?_;intro b7
    have V6:Rd [(b7,av (w.lay qs) 136)] 130 (.slice (some ⟨b7,0,none⟩) 1 1) 1 (w.lay qs):=aw (by rw [u4]) fE oZ _
    refine gpi ?_
    refine gn ?_
    exact ⟨(j+1,_),⟨by omega,eo⟩,by simp only;omega,by simp only [h3];exact aq,_,aa⟩
   ·have he:w.d=i:=by
     have h1:qs.getD w.d 0=q:=by simpa using eP
     have h2:qs[w.d]? = qs[i]?:=by rw [hqw,hq,h1]
     exact (List.getElem?_inj j4 hn).1 h2
    obtain ⟨h3,eo⟩:=jq.skip Ys he
    refine gn ?_
    exact ⟨(j+1,l),⟨by omega,eo⟩,by simp only;omega,by simp only [h3];exact aq,_,aa⟩
  ·obtain rfl:j=R.ws.length:=by omega
   rw [List.take_length] at *
   have hh:=jq.hd
   rw [List.take_length] at hh
   have hO:=Ga i R.ws R.ws.length
   rw [List.take_length] at hO
   refine gz ?_
   refine fin ⟨_,back (vw':=.slice (some ⟨g,0,none⟩) (out i R.ws).length c) (Cw':=[(g,av l 136)]) ⟨zJ qs fun w hw=>N7 w (List.mem_filter.1 hw).1,fun u hu => ?_,.inr ⟨g,c,l.drop ((out i R.ws).length*130),rfl,by rw [<-hh,List.take_append_drop],by omega,by simp only [maxLen];omega, ?_⟩⟩,rfl⟩ aa
   ·obtain ⟨w,hw,hu⟩:=List.mem_flatMap.1 hu;exact Wt.bC qs w u hu
   ·rw [zJ qs (ws:=out i R.ws) fun w hw=>N7 w (List.mem_filter.1 hw).1,List.length_drop,iK];omega
theorem CB (p:Nat)(qs:List Nat)(R:Rk)(C:Chunk)(hC:br p qs R C)(i q:Nat)(hq:qs[i]? = some q)(hl:R.live i):Ct 94 [ptr q] [C] fun u Bs=>∃C',u = .int .i64 (if (R.ev (.f i)).off then 5 else 0)/\br p qs (R.ev (.f i)) C'/\Bs=[C']:=by
 obtain ⟨vw,vd,Cw,Cd,A,B,z,g1,g2,pI,qF,d,hO⟩:=hC.open hq
 obtain ⟨h8,hR, -⟩:=hO.rd
 have hs:=hO.ok.sec d hO.mem
 have xm:=hO.ok.len d hO.mem
 have e1:=fT hs.1
 have e2:=fT hs.2
 have N4:=hO.live hl
 have hb:=hO.V5 hl
 cases ho:R.off with
 | true =>
  rw [Rk.N3 ho,hO.Yn hl,ho]
  rw [ho] at hb
  refine st Tryz.func94 fun w0 => ?_
  refine gs ?_
  refine ge ?_
  refine gz ?_
  exact fin ⟨_,by rw [if_pos rfl],hb,rfl⟩ aa
 | false =>
  have sP:(R.ev (.f i)).Ok:=hO.ok.ev (e:=.f i) trivial
  have hev:R.ev (.f i)={ ({ R with ds:=pI++⟨d.now,d.now,false⟩ :: qF }:Rk) with ws:=out i R.ws }:=by simp only [Rk.ev,ho,hO.ds];rw [u2 hO.at_];simp [out,N4]
  have ac7:({ R with ds:=pI++⟨d.now,d.now,false⟩ :: qF }:Rk).Ok:=by
   rw [hev] at sP
   refine ⟨sP.len,sP.sec,fun w hw => ?_⟩
   have h1:=hO.ok.ws w hw
   have h2:=Rk.tg R (.f i) w.d
   rw [hev] at h2
   exact ⟨by have:({ R with ds:=pI++⟨d.now,d.now,false⟩ :: qF }:Rk).size w.d=R.size w.d:=h2;omega,h1.2⟩
  have Ba:=hO.back (R':={ R with ds:=pI++⟨d.now,d.now,false⟩ :: qF }) (z':=z) (d':=⟨d.now,d.now,false⟩) rfl ac7 hO.lf hO.bw
  rw [hev,hO.Yn hl]
  simp only [ho]
  simp only [ho] at Ba
  have zI:(ak d.fj.flatten).take 0++(ak d.now.flatten).take (min (d.now.length*128) (d.now.length*128))++(ak d.fj.flatten).drop (0+min (d.now.length*128) (d.now.length*128))=ak d.now.flatten:=by
   rw [F9 (by rw [ai,e1,xm.1]) (Nat.le_refl _),List.take_of_length_le (by rw [ai,e2];omega)]
  refine st Tryz.func94 fun w0 => ?_
  refine gs ?_
  refine ge ?_
  refine gy ?_
  refine gc (Tg p qs _ _ Ba i q hq) ?_
  rintro _ _ ⟨C',bA,rfl⟩
  refine gz ?_
  exact fin ⟨_,rfl,bA,rfl⟩ aa
end Go.Proofs.YtcfioaeamfappaaGreatDoor
namespace Go.Sl
def upto (f:Nat->List Ev):Nat->List Ev
 | 0=>[]
 | k+1=>upto f k++f k
theorem dO (R:Rk)(f:Nat->List Ev)(k:Nat):R.run (upto f (k+1))=(R.run (upto f k)).run (f k):=Rk.jn ..
theorem jr {R:Rk}{f:Nat->List Ev}{k m:Nat}(h:(R.run (upto f k)).off=true)(hm:k<=m):R.run (upto f m)=R.run (upto f k):=by
 induction m with
 | zero =>
  obtain rfl:k=0:=by omega
  rfl
 | succ m ih =>
  rcases Nat.lt_or_ge m k with c | c
  ·obtain rfl:k=m+1:=by omega
   rfl
  ·rw [dO,ih c,Rk.jQ h]
theorem cR {f:Nat->List Ev}{c:Nat}(h:∀k,(f k).length<=c)(m:Nat):(upto f m).length<=m*c:=by
 induction m with
 | zero=>simp [upto]
 | succ m ih=>have:=h m;rw [upto,List.length_append,Nat.succ_mul];omega
def fA (n:Nat):Nat->Nat
 | 0=>0
 | 1=>9
 | 2=>n - 18
 | _=>n - 9
theorem zK {n k:Nat}(h:324<=n):fA n k+9<=n:=by
 unfold fA;split <;> omega
theorem zL (n:Nat){k:Nat}(h:k<4):([.int .i64 0,.int .i64 9,.int .i64 ((n - 18:Nat):Int),.int .i64 ((n - 9:Nat):Int)]:List Value)[k]? = some (.int .i64 (fA n k)):=by
 rcases (show k=0\/k=1\/k=2\/k=3 by omega) with rfl | rfl | rfl | rfl <;> rfl
def jR (n i:Nat)(u:Ub)(k:Nat):List Ev:=fS i (fA n k+1+u.txg % 8) [whole (kx u)]
def bU (no:Nat)(b:List UInt8):List UInt8:=ae no 8++b
def iV (no:Nat)(b:List UInt8):eF:=JO (aF (bU no b))++bU no b
theorem CC {no:Nat}{b:List UInt8}(h:b.length=88):(bU no b).length=96:=by simp [bU,af,h]
theorem N9 {no:Nat}{b:List UInt8}(h:b.length=88):(iV no b).length=128:=by simp [iV,ln,CC h]
def fo (s:eF):Nat:=nm s 32 8
def gA (s:eF):Bool:=decide (mu s 0=aF (s.drop 32))&&decide (1<=fo s/\fo s<=281474976710656)
def J5 (s:eF):List UInt8:=(s.drop 40).take 88
theorem zM {s:eF}(h:s.length=128):(J5 s).length=88:=by simp [J5,h]
theorem kF {R:Rk}(hR:R.Ok){i a:Nat}(h:a<R.size i):R.rn i a 1=R.now i a/\(R.now i a).length=128:=by
 unfold Rk.rn Rk.now Rk.size at *
 cases hd:R.ds[i]? with
 | none=>rw [hd] at h;simp at h
 | some d =>
  rw [hd] at h
  simp only [Option.map_some,Option.getD_some] at h
  have h2:=(hR.sec d (List.mem_of_getElem? hd)).2
  have ha:d.now[a]? = some d.now[a]:=List.getElem?_eq_getElem h
  simp only [Option.map_some,Option.getD_some,Option.bind_some,ha]
  exact ⟨by rw [List.drop_eq_getElem_cons h,List.take_succ_cons,List.take_zero,List.flatten_cons,List.flatten_nil,List.append_nil],h2 _ (List.getElem_mem h)⟩
end Go.Sl
namespace Go.Proofs.YtcfioaeamfappaaGreatDoor
open Go.Sl
set_option maxRecDepth 10000
set_option maxHeartbeats 4000000
abbrev V7 (q:Nat)(l:eR)(v:Value)(z1 z2 z3:Int):Obj:=av [ptr q,.int .u64 l.pool,v,.int .i64 l.top,.int .i64 l.place,.int .i64 z1,.int .i64 z2,.int .i64 z3] 172
def Oa (a q:Nat)(l:eR)(L:Chunk):Prop:=∃ad c D z1 z2 z3,az D 23 3 (.slice ad l.aJ.length c) l.aJ.length (l.aJ.flatMap Tp.lay)/\L=[(a,V7 q l (.slice ad l.aJ.length c) z1 z2 z3)]++D
theorem pJ (p:Nat)(qs:List Nat)(R:Rk)(C:Chunk)(hC:br p qs R C)(i q n:Nat)(hq:qs[i]? = some q)(hn:R.size i=n)(h:324<=n/\n<=8192):Ct 92 [ptr q] [C] fun u Bs=>u = .agg #[.int .i64 0,.int .i64 9,.int .i64 ((n - 18:Nat):Int),.int .i64 ((n - 9:Nat):Int)]/\Bs=[C]:=by
 subst hn
 refine st Tryz.func92 fun w0 => ?_
 refine ga ?_;intro b2
 refine gc (cM p qs R C hC i q hq) ?_
 rintro _ _ ⟨rfl,rfl⟩
 refine gz ?_
 exact fin ⟨rfl,rfl⟩ aa
theorem Yt (T:TypeId)(fr:Nat×Nat)(p:Nat)(qs:List Nat)(R:Rk)(C:Chunk)(hC:br p qs R C)(i q n a:Nat)(l:eR)(L:Chunk)(hL:Oa a q l L)(hq:qs[i]? = some q)(hl:R.live i)(hn:R.size i=n)(h:324<=n/\n<=8192)
  (x:Ub) (hx:zC x=0) (ho:x.Ok) (hp:x.pool=l.pool) (hw:R.ws.length+4<=900000000000):Ct 158 [ptr a,x.agg] [gK T fr,C,L] fun u Bs =>
  ∃C',u = .int .i64 (if (R.run (upto (jR n i x) 4)).off then 5 else 0)/\br p qs (R.run (upto (jR n i x) 4)) C'/\Bs=[gK T fr,C',L]:=by
 obtain ⟨ad,c,D,z1,z2,z3,hD,rfl⟩:=hL
 have fM:(whole (kx x)).length=128:=fP (by rw [jk];omega)
 refine st Tryz.func158 fun w0 => ?_
 refine gs ?_
 refine ga ?_;intro b3
 refine gc (F4 T fr x hx ho) ?_
 rintro _ _ ⟨g,rfl,rfl⟩
 have hg:Rd [(g,av (ak (whole (kx x))) 5)] 1 (.slice (some ⟨g,0,none⟩) 128 128) 128 (ak (whole (kx x))):=aw (by rw [ai,fM]) (aK _) oZ _
 refine gc (pJ p qs R C hC i q n hq hn h) ?_
 rintro _ _ ⟨rfl,rfl⟩
 refine gl [0,3,5,30] (fun ((k,_):Nat×Chunk)=>[(31,.int .i64 k)]) (fun (_,C)=>[C]) (fun (k,C)=>k<=4/\br p qs (R.run (upto (jR n i x) k)) C/\(0<k->(R.run (upto (jR n i x) k)).off=false)) (fun (k,_)=>4 - k) (0,C) ⟨by omega,hC,fun h0=>absurd h0 oZ⟩ ?_
 rintro ⟨k,C⟩ ⟨hk,hC,jt⟩
 refine gi ?_ ?_ <;> intro bh
 ·have LM:k<4:=by omega
  have Fa:=zL n LM
  have mj:=zK (k:=k) h.1
  have Cz:=Rk.iJ R (upto (jR n i x) k)
  have zj:=cR (f:=jR n i x) (c:=1) (fun k=>by simp [jR,fS]) k
  have nF:=kE p qs _ C hC i q (fA n k+1+x.txg % 8) 1 [whole (kx x)] [(g,av (ak (whole (kx x))) 5)] (some ⟨g,0,none⟩) 128 hq ((Rk.eh _ _ _).2 hl) (by simp [fM]) rfl (by rw [Rk.dj,hn];omega) (by simpa using hg) oZ oZ
  rw [show (R.run (upto (jR n i x) k)).run (fS i (fA n k+1+x.txg % 8) [whole (kx x)])=R.run (upto (jR n i x) (k+1)) from (dO ..).symm] at nF
  refine gd [0,4,8,12,16,20,24,32,29,39,42] ?_
  refine ge ?_
  refine gc nF ?_
  rintro _ _ ⟨C',rfl,bA,rfl⟩
  cases dN:(R.run (upto (jR n i x) (k+1))).off with
  | true =>
   refine ge ?_
   refine gz ?_
   rw [jr dN (by omega:k+1<=4),dN]
   exact fin ⟨C',rfl,bA,rfl⟩ aa
  | false =>
   refine gn ?_
   exact ⟨(k+1,C'),⟨by omega,bA,fun _=>dN⟩,by simp only;omega,aq,_,aa⟩
 ·obtain rfl:k=4:=by omega
  refine gz ?_
  rw [jt oZ]
  exact fin ⟨C,rfl,hC,rfl⟩ aa
end Go.Proofs.YtcfioaeamfappaaGreatDoor
namespace Go.Sl
theorem Gb (no:Nat)(b:List UInt8):iV no b=four [(aF (bU no b)).a,(aF (bU no b)).b,(aF (bU no b)).c,(aF (bU no b)).d]++bU no b:=by rw [Ih];rfl
end Go.Sl
namespace Go.Proofs.YtcfioaeamfappaaGreatDoor
open Go.Sl
set_option maxRecDepth 10000
set_option maxHeartbeats 4000000
section
variable (T:TypeId)(fr:Nat×Nat)(p:Nat)(qs:List Nat)(R:Rk)(C:Chunk)(hC:br p qs R C)(i q n a:Nat)(l:eR)(L:Chunk)(hL:Oa a q l L)(hq:qs[i]? = some q)(hl:R.live i)(hn:R.size i=n)(h:324<=n/\n<=8192)
include hC hL hq hl hn h
theorem Oc (at_ no:Nat)(b:List UInt8)(O:Chunk)(v:Value)(ha:at_<256)(eV:1<=no/\no<=281474976710656)(hb:b.length=88)(hO:Rd O 1 v 88 (ak b))(hw:R.ws.length+1<=900000000000):Ct 168 [ptr a,.int .i64 at_,.int .u64 no,v] [gK T fr,C,L,O] fun u Bs =>
  ∃C',u = .int .i64 (if (R.run (fS i (18+at_) [iV no b])).off then 5 else 0)/\br p qs (R.run (fS i (18+at_) [iV no b])) C'/\Bs=[gK T fr,C',L,O]:=by
 obtain ⟨ad,c,D,z1,z2,z3,hD,rfl⟩:=hL
 obtain ⟨iI,c1,rfl⟩:=hO.slice
 have cV:=CC (no:=no) hb
 have fM:=N9 (no:=no) hb
 have aQ:=nc (bU no b)
 have hK:=fun g=>zy T fr [(g,av (ak (bU no b)) 5)] (.slice (some ⟨g,0,none⟩) 96 96) (bU no b) 96 cV (aw (by rw [ai,cV]) (aK _) oZ _) oZ 1
 rw [show iU 1 (bU no b)=(aF (bU no b),0) from rfl] at hK
 simp only at hK
 refine st Tryz.func168 fun w0 => ?_
 refine gs ?_
 refine gc (uG 128 oZ) ?_
 rintro _ _ ⟨p1,A,rfl,hA,rfl⟩
 refine gc (fx p1 128 [] A no 8 hA oZ oZ (by simp)) ?_
 rintro _ _ ⟨A1,l6,rfl⟩
 refine gc (na p1 128 _ b A1 O _ l6 (by rw [hb];exact hO) (by simp [af];omega)) ?_
 rintro _ _ ⟨A2,lr,rfl⟩
 rw [List.nil_append] at lr
 change wW p1 128 (bU no b) A2 at lr
 have hd:=n8 p1 128 _ A2 lr oZ
 rw [cV] at hd
 refine gc hd ?_
 rintro _ _ ⟨g,rfl,rfl⟩
 refine gc (hK g) ?_
 rintro _ _ ⟨rfl,rfl⟩
 refine ga ?_;intro RC
 refine gc (uG 128 oZ) ?_
 rintro _ _ ⟨p2,A,rfl,hA,rfl⟩
 refine gl [0,1,10,13,68] (fun ((k,_):Nat×Chunk)=>[(69,.int .i64 k)]) (fun (_,A)=>[A]) (fun (k,A)=>k<=4/\wW p2 128 (four ([(aF (bU no b)).a,(aF (bU no b)).b,(aF (bU no b)).c,(aF (bU no b)).d].take k)) A) (fun (k,_)=>4 - k) (0,A) ⟨by omega,hA⟩ ?_
 rintro ⟨k,A⟩ ⟨hk,hA⟩
 refine gi ?_ ?_ <;> intro bh
 ·have LM:k<4:=by omega
  obtain ⟨x,hx⟩:∃x,[(aF (bU no b)).a,(aF (bU no b)).b,(aF (bU no b)).c,(aF (bU no b)).d][k]? = some x:=⟨_,List.getElem?_eq_getElem LM⟩
  have hv:([.int .u64 (aF (bU no b)).a,.int .u64 (aF (bU no b)).b,.int .u64 (aF (bU no b)).c,.int .u64 (aF (bU no b)).d]:List Value)[k]? = some (.int .u64 x):=by
   have:([(aF (bU no b)).a,(aF (bU no b)).b,(aF (bU no b)).c,(aF (bU no b)).d].map fun n:Nat=>Value.int .u64 n)[k]? = some (.int .u64 x):=by rw [List.getElem?_map,hx];rfl
   exact this
  have hb8:x<256 ^ 8:=by
   have:=List.mem_of_getElem? hx
   obtain ⟨h1,h2,h3,h4⟩:=aQ
   simp at this;rcases this with rfl | rfl | rfl | rfl <;> assumption
  have hl4:=uP [(aF (bU no b)).a,(aF (bU no b)).b,(aF (bU no b)).c,(aF (bU no b)).d] k
  refine gc (fx p2 128 _ A x 8 hA oZ hb8 oZ) ?_
  rintro _ _ ⟨A',dX,rfl⟩
  rw [<-x8 hx] at dX
  refine gn ?_
  exact ⟨(k+1,A'),⟨by omega,dX⟩,by simp only;omega,aq,_,aa⟩
 ·obtain rfl:k=4:=by omega
  have hg:Rd [(g,av (ak (bU no b)) 5)] 1 (.slice (some ⟨g,0,none⟩) 96 96) (bU no b).length (ak (bU no b)):=by rw [cV];exact aw (by rw [ai,cV]) (aK _) oZ _
  have hl4:=uP [(aF (bU no b)).a,(aF (bU no b)).b,(aF (bU no b)).c,(aF (bU no b)).d] 4
  refine gc (na p2 128 _ (bU no b) A _ _ hA hg oZ) ?_
  rintro _ _ ⟨A4,wY,rfl⟩
  rw [show ([(aF (bU no b)).a,(aF (bU no b)).b,(aF (bU no b)).c,(aF (bU no b)).d].take 4)=[(aF (bU no b)).a,(aF (bU no b)).b,(aF (bU no b)).c,(aF (bU no b)).d] from rfl,<-Gb] at wY
  have hd2:=n8 p2 128 _ A4 wY oZ
  rw [fM] at hd2
  refine gc hd2 ?_
  rintro _ _ ⟨g2,rfl,rfl⟩
  have hg2:Rd [(g2,av (ak (iV no b)) 5)] 1 (.slice (some ⟨g2,0,none⟩) (1*128) 128) (1*128) (ak ([iV no b]:List eF).flatten):=by
   rw [show ([iV no b]:List eF).flatten=iV no b by simp];exact aw (by rw [ai,fM]) (aK _) oZ _
  refine qC [[(a,V7 q l (.slice ad l.aJ.length c) z1 z2 z3)]] [0,4,8,12,16,20,24,32,36,40,29,47,50] ?_
  refine gc (kE p qs R C hC i q (18+at_) 1 [iV no b] _ _ 128 hq hl (by simp [fM]) rfl oZ hg2 oZ oZ) ?_
  rintro _ _ ⟨C',rfl,bA,rfl⟩
  cases dN:(R.run (fS i (18+at_) [iV no b])).off with
  | true =>
   refine ge ?_
   refine gz ?_
   exact fin ⟨C',rfl,bA,rfl⟩ aa
  | false =>
   refine ge ?_
   refine gz ?_
   exact fin ⟨C',rfl,bA,rfl⟩ aa
omit h in
theorem Il (at_:Nat)(ha:at_<256)(h18:18+at_<n):Ct 127 [ptr a,.int .i64 at_] [gK T fr,C,L] fun u Bs =>
  (R.off=true/\u = .tuple #[.int .u64 0,.slice none 0 0,.bool false]/\Bs=[gK T fr,C,L])\/(R.off=false/\gA (R.now i (18+at_))=false/\u = .tuple #[.int .u64 0,.slice none 0 0,.bool false]/\Bs=[gK T fr,C,L]) \/
  (R.off=false/\gA (R.now i (18+at_))=true/\∃g,u = .tuple #[.int .u64 (fo (R.now i (18+at_))),.slice (some ⟨g,0,none⟩) 88 88,.bool true]/\Bs=[[(g,av (ak (J5 (R.now i (18+at_)))) 5)],gK T fr,C,L]):=by
 obtain ⟨ad,c,D,z1,z2,z3,hD,rfl⟩:=hL
 have xg:=kF hC.ok (i:=i) (a:=18+at_) oZ
 obtain ⟨s,hs⟩:∃s,s=R.now i (18+at_):=⟨_,rfl⟩
 rw [<-hs] at xg ⊢
 obtain ⟨lU,fM⟩:=xg
 refine st Tryz.func127 fun w0 => ?_
 refine gs ?_
 refine gc (ng p qs R C hC i q (18+at_) 1 hq hl oZ) ?_
 rintro _ _ (⟨ho,rfl,rfl⟩ | ⟨ho,g,rfl,rfl⟩)
 ·refine gz ?_
  exact fin (.inl ⟨ho,rfl,rfl⟩) aa
 rw [lU]
 have hg:Rd [(g,av (ak s) 5)] 1 (.slice (some ⟨g,0,none⟩) 128 128) 128 (ak s):=aw (by rw [ai,fM]) (aK _) oZ _
 refine gc (q8 s 128 fM oZ _ _ hg) ?_
 rintro _ _ ⟨p1,A,rfl,hA,rfl⟩
 refine gc (cj p1 s 0 8 A hA oZ oZ) ?_
 rintro _ _ ⟨A1,rfl,l6,rfl⟩
 refine gc (cj p1 s 8 8 A1 l6 oZ oZ) ?_
 rintro _ _ ⟨A2,rfl,lr,rfl⟩
 refine gc (cj p1 s 16 8 A2 lr oZ oZ) ?_
 rintro _ _ ⟨A3,rfl,uQ,rfl⟩
 refine gc (cj p1 s 24 8 A3 uQ oZ oZ) ?_
 rintro _ _ ⟨A4,rfl,wY,rfl⟩
 refine ga ?_;intro wV
 refine gc (cj p1 s 32 8 A4 wY oZ oZ) ?_
 rintro _ _ ⟨A5,rfl,E3,rfl⟩
 refine gc (pA p1 s 40 88 A5 E3 oZ) ?_
 rintro _ _ ⟨A6,g2,rfl,RB,rfl⟩
 have afr:128 - 32=96:=rfl
 have nZ:((ak s).drop (32*1)).take ((128 - 32)*1)=ak (s.drop 32):=by rw [Nat.mul_one,Nat.mul_one,aY,List.take_of_length_le (by rw [ai,List.length_drop];omega)]
 have sQ:(s.drop 32).length=96:=by rw [List.length_drop];omega
 refine gd [0,4,8,15,18,22,26,30,34,38,42,46,50] ?_
 refine gw ?_;intro fJ zx
 refine gc (zz T fr [(g,av (ak s) 5)] _ (s.drop 32) 96 sQ zx oZ 1 (mu s 0)) ?_
 rintro _ _ ⟨rfl,rfl⟩
 have hk:sM 1 (mu s 0) (s.drop 32)=decide (mu s 0=aF (s.drop 32)):=by show (true&&Fs.JI _ _)=_;rw [Bool.true_and,Fs.FQ];rfl
 rw [hk]
 have eV:numOf (cut s 32 8)=fo s:=rfl
 rw [eV]
 by_cases hc:mu s 0=aF (s.drop 32)
 ·rw [decide_eq_true hc]
  refine gg ?_ ?_ <;> intro h1
  ·refine gz ?_
   exact fin (.inr (.inl ⟨ho,by unfold gA;rw [decide_eq_false (p:=1<=fo s/\_) oZ,Bool.and_false],rfl,rfl⟩)) aa
  ·refine gi ?_ ?_ <;> intro h2
   ·refine gz ?_
    exact fin (.inr (.inl ⟨ho,by unfold gA;rw [decide_eq_false (p:=1<=fo s/\_) oZ,Bool.and_false],rfl,rfl⟩)) aa
   ·refine gz ?_
    exact fin (.inr (.inr ⟨ho,by unfold gA;rw [decide_eq_true hc,decide_eq_true oZ];rfl,g2,rfl,rfl⟩)) aa
 ·rw [decide_eq_false hc]
  refine gz ?_
  exact fin (.inr (.inl ⟨ho,by unfold gA;rw [decide_eq_false hc,Bool.false_and],rfl,rfl⟩)) aa
theorem u5 (at_ many:Nat)(hm:at_+many+292<=n):Ct 225 [ptr a,.int .i64 at_,.int .i64 many] [C,L] fun u Bs =>
  (R.off=true/\u = .tuple #[.slice none 0 0,.int .i64 5]/\Bs=[C,L])\/(R.off=false/\∃g,u = .tuple #[.slice (some ⟨g,0,none⟩) (many*128) (many*128),.int .i64 0]/\Bs=[C,[(g,av (ak (R.rn i (274+at_) many)) 5)],L]):=by
 obtain ⟨ad,c,D,z1,z2,z3,hD,rfl⟩:=hL
 refine st Tryz.func225 fun w0 => ?_
 refine gs ?_
 refine ge ?_
 refine gc (ng p qs R C hC i q 0 0 hq hl oZ) ?_
 rintro _ _ (⟨ho,rfl,rfl⟩ | ⟨ho,g,rfl,rfl⟩)
 ·refine ge ?_
  refine gz ?_
  exact fin (.inl ⟨ho,rfl,rfl⟩) aa
 refine ge ?_
 refine ge ?_
 refine gc (cM p qs R C hC i q hq) ?_
 rintro _ _ ⟨rfl,rfl⟩
 rw [hn]
 refine ge ?_
 refine gc (cM p qs R C hC i q hq) ?_
 rintro _ _ ⟨rfl,rfl⟩
 rw [hn]
 refine gc (ng p qs R C hC i q (274+at_) many hq hl oZ) ?_
 rintro _ _ (⟨dN,rfl,rfl⟩ | ⟨dN,g,rfl,rfl⟩)
 ·rw [ho] at dN;cases dN
 ·refine gz ?_
  exact fin (.inr ⟨ho,g,rfl,rfl⟩) aa
theorem ye (at_ m:Nat)(ss:List eF)(O:Chunk)(ad:Option Addr)(c:Nat)(Ik:∀s∈ss,s.length=128)(hm:ss.length=m)(hf:at_+m+292<=n)
  (hO:Rd O 1 (.slice ad (m*128) c) (m*128) (ak ss.flatten)) (hc:m*128<=c) (hw:R.ws.length+m<=900000000000):Ct 321 [ptr a,.int .i64 at_,.slice ad (m*128) c] [C,L,O] fun u Bs =>
  ∃C',u = .int .i64 (if (R.run (fS i (274+at_) ss)).off then 5 else 0)/\br p qs (R.run (fS i (274+at_) ss)) C'/\Bs=[C',L,O]:=by
 obtain ⟨iI,c1,D,z1,z2,z3,hD,rfl⟩:=hL
 refine st Tryz.func321 fun w0 => ?_
 refine gs ?_
 refine ge ?_
 refine gc (ng p qs R C hC i q 0 0 hq hl oZ) ?_
 rintro _ _ (⟨ho,rfl,rfl⟩ | ⟨ho,g,rfl,rfl⟩)
 ·refine ge ?_
  refine gz ?_
  rw [Rk.jQ ho,ho]
  exact fin ⟨C,rfl,hC,rfl⟩ aa
 refine ge ?_
 refine ge ?_
 refine gc (cM p qs R C hC i q hq) ?_
 rintro _ _ ⟨rfl,rfl⟩
 rw [hn]
 refine ge ?_
 refine gc (cM p qs R C hC i q hq) ?_
 rintro _ _ ⟨rfl,rfl⟩
 rw [hn]
 refine gc (kE p qs R C hC i q (274+at_) m ss O ad c hq hl Ik hm oZ hO hc hw) ?_
 rintro _ _ ⟨C',rfl,bA,rfl⟩
 refine gz ?_
 exact fin ⟨C',rfl,bA,rfl⟩ aa
omit h hn in
theorem CE:Ct 320 [ptr a] [C,L] fun u Bs=>∃C',u = .int .i64 (if (R.ev (.f i)).off then 5 else 0)/\br p qs (R.ev (.f i)) C'/\Bs=[C',L]:=by
 obtain ⟨iI,c1,D,z1,z2,z3,hD,rfl⟩:=hL
 refine st Tryz.func320 fun w0 => ?_
 refine gs ?_
 refine qC [[(a,V7 q l (.slice iI l.aJ.length c1) z1 z2 z3)]] [0,4,8,12,20,24,28,17,35,38] ?_
 refine gc (CB p qs R C hC i q hq hl) ?_
 rintro _ _ ⟨C',rfl,bA,rfl⟩
 cases dN:(R.ev (.f i)).off with
 | true =>
  refine ge ?_
  refine gz ?_
  exact fin ⟨C',rfl,bA,rfl⟩ aa
 | false =>
  refine ge ?_
  refine gz ?_
  exact fin ⟨C',rfl,bA,rfl⟩ aa
end
end Go.Proofs.YtcfioaeamfappaaGreatDoor
namespace Go.Sl
structure Lv where
 a:Nat
 i:Nat
 q:Nat
abbrev iv:Option Lv->Value
 | none=>.pointer none
 | some x=>ptr x.a
def u6 (ls:List (Option Lv)):Sy Nat:=⟨0,fun i vs i'=>∃x,ls[i]? = some (some x)/\vs=[.int .i64 i,ptr x.a]/\i'=i+1,fun i i'=>ls[i]? = some none/\i'=i+1,fun i=>i=ls.length⟩
end Go.Sl
namespace Go.Proofs.YtcfioaeamfappaaGreatDoor
open Go.Sl
set_option maxRecDepth 10000
set_option maxHeartbeats 4000000
abbrev zN (vl vk:Value)(sz:Int):Obj:=av [vl,vk,.int .i64 sz] 232
theorem Od (l b t:Nat)(ls:List (Option Lv))(iK:ls.length<=1000)(vl:Value)(CL:Chunk)(hCL:az CL 108 1 vl ls.length (ls.map iv))(vk:Value)(sz:Int)(J:Nat->World->Prop)(Jx:World->Prop)
  (ac8:∀w,J 0 w->w.heap[b]? = some (av [ptr t] 179)/\w.heap[t]? = some (zN vl vk sz)) (oM:∀i w,J i w->∀x∈CL,w.heap[x.1]? = some x.2)
  (Th:∀i w,ls[i]? = some none->J i w->J (i+1) w)
  (Yu:∀i x w,ls[i]? = some (some x)->J i w->∃rc,w.heap[l]? = some (.loop rc)/\2=rc.params.size /\
   RoundIn Fence.wide 0 Tryz.prog l rc.fn ((rc.params.zip #[.int .i64 i,ptr x.a]).foldl (fun tmps x=>tmps.setIfInBounds x.1 x.2) rc.tmps) rc.assign rc.body w fun en w'=>(en = .returned (.bool true)/\J (i+1) w')\/(en = .returned (.bool false)/\Jx w'))
  (w:World) (h0:J 0 w):CallsIn Fence.wide 0 Tryz.prog 203 #[.func (.yield l) #[] #[],ptr b] w fun en w'=>∃v,en = .returned v/\(J ls.length w'\/Jx w'):=by
 obtain ⟨hb,ht⟩:=ac8 w h0
 obtain ⟨ad,c,rfl⟩:=hCL.slice
 refine HF 25 Tryz.func203 rfl rfl dZ ?_;intro a E
 refine dM ?_;intro K hK
 refine db rfl ?_
 refine aP E rfl rfl dZ (km E rfl rfl rfl (uc hb rfl)) ?_;clear E a;intro a E
 refine aP E rfl rfl dZ (rX E rfl rfl) ?_;clear E a;intro a E
 refine aP E rfl rfl dZ (by first | exact nQ (q:=0) E rfl rfl rfl | exact kY (q:=0) E rfl rfl rfl) ?_;clear E a;intro a E
 refine aP E rfl rfl dZ (km E rfl rfl rfl (uc ht rfl)) ?_;clear E a;intro a E
 refine aP E rfl rfl dZ (by first | exact Ml E rfl rfl rfl | exact tV E rfl rfl rfl | exact nO E rfl rfl rfl) ?_;clear E a;intro a E
 refine aP E rfl rfl dZ (dW E rfl rfl) ?_;clear E a;intro a E
 refine wpList_nil ?_;refine bm ?_
 refine eC hK ?_;clear hK;clear K
 refine mg ?_
 refine j0 (fun (m:Nat) (a:Act) (w':World)=>∃i:Nat,m=ls.length - i/\i<=ls.length/\J i w'/\Fr a 25 [(0,.func (.yield l) #[] #[]),(8,.slice ad ls.length c),(9,.int .i64 ls.length),(10,.int .i64 i)]) (ls.length - 0) ?_ ?_
 ·exact ⟨0,rfl,by omega,h0,E.cZ (bN rfl (bN rfl (bN rfl (bN rfl l9))))⟩
 clear E;clear a;(try clear S);rintro m a w ⟨i,rfl,hi,hJ,E⟩
 refine dM ?_;intro K hK
 refine db rfl ?_
 refine aP E rfl rfl dZ (Mm E rfl rfl rfl) ?_;clear E a;intro a E
 refine wpList_nil ?_;refine bm ?_
 refine eC hK ?_;clear hK;clear K
 refine dM ?_;intro K hK
 refine MP E rfl (fun hb => ?_) (fun hb => ?_)
 ·replace hb:=Jj.nrm hb
  refine mY ?_
  refine eC hK ?_;clear hK;clear K
  refine dM ?_;intro K hK
  refine mg ?_
  refine dM ?_;intro K hK
  have bo:i<ls.length:=by omega
  obtain ⟨g,rfl⟩:=hCL.addr oZ
  have cu:=oM i w hJ
  obtain ⟨o,ho⟩:∃o,ls[i]? = some o:=⟨_,List.getElem?_eq_getElem bo⟩
  have bV:(ls.map iv)[i]? = some (iv o):=by rw [List.getElem?_map,ho];rfl
  refine db rfl ?_
  rcases o with _ | x
  ·skip
   refine aP E rfl rfl dZ (dW E rfl rfl) ?_;clear E a;intro a E
   refine aP E rfl rfl dZ (by first | exact nR E rfl rfl rfl rfl rfl rfl oZ | exact iT E rfl rfl rfl rfl rfl rfl oZ | exact fh E rfl rfl rfl rfl rfl rfl oZ) ?_;clear E a;intro a E
   refine aP E rfl rfl dZ (km E rfl rfl rfl (hCL.rd.cells cu rfl i _ bV)) ?_;clear E a;intro a E
   refine aP E rfl rfl dZ (ja E rfl rfl) ?_;clear E a;intro a E
   refine aP E rfl rfl dZ (ja E rfl rfl) ?_;clear E a;intro a E
   refine wpList_nil ?_;refine bm ?_
   refine eC hK ?_;clear hK;clear K
   refine dM ?_;intro K hK
   refine wpIn_region_lit ?_
   refine bT E rfl rfl rfl dZ (dW E rfl rfl) ?_;clear E a;intro a E
   refine bT E rfl rfl rfl dZ (by first | exact Ft E rfl rfl rfl | exact jf E rfl rfl rfl rfl | exact mb E rfl rfl rfl rfl | exact jY E rfl rfl rfl) ?_;clear E a;intro a E
   refine bT E rfl rfl rfl dZ (dW E rfl rfl) ?_;clear E a;intro a E
   refine guard_false E (t:=17) rfl (rfl) (fun ot => ?_)
   refine eE E rfl rfl rfl rfl ot rfl dZ ?_;clear E a;intro a E
   refine eE E rfl rfl rfl rfl ot rfl dZ ?_;clear E a;intro a E
   refine eE E rfl rfl rfl rfl ot rfl dZ ?_;clear E a;intro a E
   refine eE E rfl rfl rfl rfl ot rfl dZ ?_;clear E a;intro a E
   refine eE E rfl rfl rfl rfl ot rfl dZ ?_;clear E a;intro a E
   refine bT E rfl rfl rfl dZ (Bm E rfl rfl ot rfl) ?_;clear E a;intro a E
   refine wpListIn_nil ?_
   refine eC hK ?_;clear hK;clear K
   refine kq E rfl rfl ?_
   refine mY ?_
   refine qL ?_
   refine eC hK ?_;clear hK;clear K
   refine db rfl ?_
   refine aP E rfl rfl dZ (Fq E rfl rfl rfl (by first | exact Mw (y:=1) oZ | exact Xm oZ | exact My oZ | exact rfl)) ?_;clear E a;intro a E
   refine aP E rfl rfl dZ (dW E rfl rfl) ?_;clear E a;intro a E
   refine wpList_nil ?_;refine bm ?_
   refine ma ?_
   exact ⟨_,by omega,i+1,rfl,by omega,Th i w ho hJ,E.cZ (bN rfl (bN rfl (bN rfl (bN rfl l9))))⟩
  ·skip
   refine aP E rfl rfl dZ (dW E rfl rfl) ?_;clear E a;intro a E
   refine aP E rfl rfl dZ (by first | exact nR E rfl rfl rfl rfl rfl rfl oZ | exact iT E rfl rfl rfl rfl rfl rfl oZ | exact fh E rfl rfl rfl rfl rfl rfl oZ) ?_;clear E a;intro a E
   refine aP E rfl rfl dZ (km E rfl rfl rfl (hCL.rd.cells cu rfl i _ bV)) ?_;clear E a;intro a E
   refine aP E rfl rfl dZ (ja E rfl rfl) ?_;clear E a;intro a E
   refine aP E rfl rfl dZ (ja E rfl rfl) ?_;clear E a;intro a E
   refine wpList_nil ?_;refine bm ?_
   refine eC hK ?_;clear hK;clear K
   refine dM ?_;intro K hK
   refine wpIn_region_lit ?_
   obtain ⟨rc,hl,bx,hR⟩:=Yu i x w ho hJ;clear hJ
   refine bT E rfl rfl rfl dZ (dW E rfl rfl) ?_;clear E a;intro a E
   refine bT E rfl rfl rfl dZ (by first | exact Ft E rfl rfl rfl | exact jf E rfl rfl rfl rfl | exact mb E rfl rfl rfl rfl | exact jY E rfl rfl rfl) ?_;clear E a;intro a E
   refine bT E rfl rfl rfl dZ (dW E rfl rfl) ?_;clear E a;intro a E
   refine guard_true E (t:=17) rfl (rfl) (fun ot => ?_)
   refine ee E rfl rfl rfl rfl ot rfl rfl dZ (dW E rfl rfl) ?_;clear E a;intro a E
   refine ee E rfl rfl rfl rfl ot rfl rfl dZ (dW E rfl rfl) ?_;clear E a;intro a E
   refine ee E rfl rfl rfl rfl ot rfl rfl dZ (dW E rfl rfl) ?_;clear E a;intro a E
   refine ur E rfl rfl rfl rfl ot (xX E rfl dZ rfl rfl rfl (hl) (bx) (RoundIn.mono (hR) ?_))
   rintro en w (⟨rfl,hJ⟩ | ⟨rfl,hJ⟩)
   ·refine ⟨_,rfl, ?_⟩;clear E a;intro a E
    refine ee E rfl rfl rfl rfl ot rfl rfl dZ (tP E rfl rfl) ?_;clear E a;intro a E
    refine bT E rfl rfl rfl dZ (oX E rfl rfl ot rfl) ?_;clear E a;intro a E
    refine wpListIn_nil ?_
    refine eC hK ?_;clear hK;clear K
    refine kq E rfl rfl ?_
    refine mY ?_
    refine qL ?_
    refine eC hK ?_;clear hK;clear K
    refine db rfl ?_
    refine aP E rfl rfl dZ (Fq E rfl rfl rfl (by first | exact Mw (y:=1) oZ | exact Xm oZ | exact My oZ | exact rfl)) ?_;clear E a;intro a E
    refine aP E rfl rfl dZ (dW E rfl rfl) ?_;clear E a;intro a E
    refine wpList_nil ?_;refine bm ?_
    refine ma ?_
    exact ⟨_,by omega,i+1,rfl,by omega,hJ,E.cZ (bN rfl (bN rfl (bN rfl (bN rfl l9))))⟩
   ·refine ⟨_,rfl, ?_⟩;clear E a;intro a E
    refine ee E rfl rfl rfl rfl ot rfl rfl dZ (tP E rfl rfl) ?_;clear E a;intro a E
    refine bT E rfl rfl rfl dZ (oX E rfl rfl ot rfl) ?_;clear E a;intro a E
    refine wpListIn_nil ?_
    refine eC hK ?_;clear hK;clear K
    refine pj E rfl rfl ?_
    refine FG ?_
    refine yL ?_
    refine tL ?_;clear hK;clear K
    refine tL ?_
    refine yL ?_
    refine aah E rfl ?_
    exact ⟨_,rfl,.inr hJ⟩
 ·replace hb:=Jj.nrm hb
  refine y8 ?_
  refine mW ?_;clear hK;clear K
  refine mW ?_
  refine yM ?_
  refine aai E rfl ?_
  obtain rfl:i=ls.length:=by omega
  exact ⟨_,rfl,.inl hJ⟩
theorem u7 (b t:Nat)(ls:List (Option Lv))(iK:ls.length<=1000)(vl vk:Value)(CL:Chunk)(hCL:az CL 108 1 vl ls.length (ls.map iv))(sz:Int) :
  Nj Tryz.prog 203 [ptr b] [CL] [[(b,av [ptr t] 179)],[(t,zN vl vk sz)]] (u6 ls):=by
 intro w0 As J n7 l rc w Ls S hB h0 hsk hr
 have mB:∀ {w':World} {C:Chunk},C∈Ls->St w0 As w' ([(l,.loop rc)] :: ([CL]++Ls))->lR [C] w':=fun hC S=>S.jX.sub fun D hD=>by rw [List.mem_singleton.1 hD];exact List.mem_cons_of_mem _ (List.mem_cons_of_mem _ hC)
 refine CallsIn.mono (Od l b t ls iK vl CL hCL vk sz (fun i w'=>∃bg,St w0 As w' ([(l,.loop rc)] :: ([CL]++bg))/\J i bg/\(i=0->bg=Ls\/0<i)) (fun w'=>∃bg,St w0 As w' ([(l,.loop (xV rc))] :: ([CL]++bg))/\n7 bg)
  (fun w2 ⟨bg,S2,_,h⟩ => ?_) (fun i w ⟨bg,S,_⟩=>S.jX.at mem) (fun i w hi ⟨bg,S,hJ,_⟩=>⟨bg,S,hsk i (i+1) bg ⟨hi,rfl⟩ hJ,fun h=>by omega⟩)
  (fun i x w hi ⟨bg,S,hJ,_⟩ => ?_) w ⟨Ls,S,h0,fun _=>.inl rfl⟩) ?_
 ·rcases h rfl with rfl | h
  ·exact ⟨(mB (hB _ (List.mem_cons_self ..)) S2).one mem,(mB (hB _ (List.mem_cons_of_mem _ (List.mem_cons_self ..))) S2).one mem⟩
  ·omega
 ·obtain ⟨h1,h2⟩:=hr i [.int .i64 i,ptr x.a] (i+1) bg w ⟨x,hi,rfl,rfl⟩ hJ S
  refine ⟨rc,S.uo,h1,RoundIn.mono h2 ?_⟩
  rintro en w' (⟨h3,L',h4,h5⟩ | ⟨h3,L',h4,h5⟩)
  ·exact .inl ⟨h3,L',h4,h5,fun h=>by omega⟩
  ·exact .inr ⟨h3,L',h4,h5⟩
 ·rintro en w' ⟨v,rfl,h⟩
  refine ⟨v,rfl, ?_⟩
  rcases h with ⟨bg,S,hJ,_⟩ | ⟨bg,S,hJ⟩
  ·exact .inl ⟨_,bg,rfl,S,hJ⟩
  ·exact .inr ⟨bg,S,hJ⟩
end Go.Proofs.YtcfioaeamfappaaGreatDoor
namespace Go.Sl
def sR:Nat->List UInt8->List eF
 | 0,_=>[]
 | k+1,l=>l.take 128 :: sR k (l.drop 128)
theorem CG:∀(k:Nat) (l:List UInt8),(sR k l).length=k
 | 0,_=>rfl
 | k+1,l=>by simp [sR,CG k]
theorem CH:∀(k:Nat) {l:List UInt8},l.length=k*128->(∀s∈sR k l,s.length=128)/\(sR k l).flatten=l
 | 0,l,h=>by
  have:l=[]:=List.eq_nil_of_length_eq_zero oZ
  subst this;simp [sR]
 | k+1,l,h=>by
  obtain ⟨h1,h2⟩:=CH k (l:=l.drop 128) (by rw [List.length_drop];omega)
  refine ⟨fun s hs => ?_,by rw [sR,List.flatten_cons,h2,List.take_append_drop]⟩
  rcases List.mem_cons.1 hs with rfl | hs
  ·rw [List.length_take];omega
  ·exact h1 s hs
def aD (n:Nat):Nat:=(n+127) / 128
def jD (b:List UInt8):List UInt8:=b++List.replicate (aD b.length*128 - b.length) 0
def kG (b:List UInt8):List eF:=sR (aD b.length) (jD b)
theorem u9 (b:List UInt8):(jD b).length=aD b.length*128:=by simp [jD,aD];omega
theorem gX (b:List UInt8):(kG b).length=aD b.length:=CG ..
theorem kH (b:List UInt8):(∀s∈kG b,s.length=128)/\(kG b).flatten=jD b:=CH _ (u9 b)
def dI (qs:List Nat)(R:Rk)(n:Nat)(ls:List (Option Lv)):Prop:=∀x,some x∈ls->qs[x.i]? = some x.q/\R.live x.i/\R.size x.i=n
theorem dI.run {qs:List Nat}{R:Rk}{n:Nat}{ls:List (Option Lv)}(h:dI qs R n ls)(l:List Ev):dI qs (R.run l) n ls:=fun x hx=>by
 obtain ⟨h1,h2,h3⟩:=h x hx
 exact ⟨h1,(Rk.eh ..).2 h2,by rw [Rk.dj,h3]⟩
def nG (ls:List (Option Lv))(at_:Nat)(b:List UInt8)(k:Nat):List Ev:=match ls[k]? with
 | some (some x)=>fS x.i (274+at_) (kG b)
 | _=>[]
def ni (ls:List (Option Lv))(k:Nat):List Ev:=match ls[k]? with
 | some (some x)=>[.f x.i]
 | _=>[]
theorem CI (ls:List (Option Lv))(at_:Nat){b:List UInt8}(h:b.length<=1024)(k:Nat):(nG ls at_ b k).length<=8:=by
 unfold nG;split
 ·rw [fm,gX,aD];omega
 ·simp
end Go.Sl
namespace Go.Proofs.YtcfioaeamfappaaGreatDoor
open Go.Sl
set_option maxRecDepth 10000
set_option maxHeartbeats 4000000
def iw (mk:Nat->eR):Nat->List (Option Lv)->Chunk->Prop
 | _,[],C=>C=[]
 | k,none :: l,C=>iw mk (k+1) l C
 | k,some x :: l,C=>∃L C',Oa x.a x.q (mk k) L/\iw mk (k+1) l C'/\C=L++C'
theorem iw.at {mk:Nat->eR}:∀ {l:List (Option Lv)} {k0 k:Nat} {C:Chunk} {x:Lv},iw mk k0 l C->l[k]? = some (some x)->∃A L B,Oa x.a x.q (mk (k0+k)) L/\C=A++(L++B)
 | none :: l,k0,k+1,C,x,h,hx=>by
  obtain ⟨A,L,B,h1,h2⟩:=iw.at (l:=l) (k0:=k0+1) (k:=k) (C:=C) h (by simpa using hx)
  exact ⟨A,L,B,by rw [show k0+(k+1)=k0+1+k by omega];exact h1,h2⟩
 | some y :: l,k0,0,C,x,⟨L,C',h1,h2,h3⟩,hx=>by
  cases hx;exact ⟨[],L,C',h1,h3⟩
 | some y :: l,k0,k+1,C,x,⟨L,C',h1,h2,h3⟩,hx=>by
  obtain ⟨A,L',B,g1,g2⟩:=iw.at (l:=l) (k0:=k0+1) (k:=k) (C:=C') h2 (by simpa using hx)
  exact ⟨L++A,L',B,by rw [show k0+(k+1)=k0+1+k by omega];exact g1,by rw [h3,g2,List.append_assoc]⟩
abbrev mC:Option (Nat×Nat)->List Value
 | none=>[.int .u64 0,.int .u64 0,.bool false]
 | some (a,b)=>[.int .u64 a,.int .u64 b,.bool true]
theorem J6 (x:Option (Nat×Nat)):(mC x).length=3:=by rcases x with _ | ⟨a,b⟩ <;> rfl
def J7 (m:Nat)(ls:List (Option Lv))(lk:List (Option (Nat×Nat)))(sz:Nat)(M:Chunk):Prop:=∃ad c Cv g,
 az Cv 108 1 (.slice ad ls.length c) ls.length (ls.map iv)/\lk.length=ls.length /\
 M=[(m,zN (.slice ad ls.length c) (.slice (some ⟨g,0,none⟩) ls.length ls.length) sz)]++(Cv++[(g,av (lk.flatMap mC) 419)])
theorem pK (m b:Nat)(hb:1<=b/\b<=1024):Ct 348 [ptr m,.int .i64 b] [] fun u Bs=>u = .int .i64 (aD b)/\Bs=[]:=by
 refine st Tryz.func348 fun w0 => ?_
 refine gz ?_
 exact fin ⟨congrArg _ (by unfold aD;omega),rfl⟩ aa
theorem J8 (m:Nat)(b:List UInt8)(n:Nat)(hn:b.length=n)(hb:1<=n/\n<=1024)(O:Chunk)(v:Value)(hO:Rd O 1 v n (ak b)):Ct 356 [ptr m,v] [O] fun u Bs=>∃g,u = .slice (some ⟨g,0,none⟩) (aD n*128) (aD n*128)/\Bs=[[(g,av (ak (jD b)) 5)],O]:=by
 subst hn
 obtain ⟨ad,c,rfl⟩:=hO.slice
 have ek:aD b.length<=8/\b.length<=aD b.length*128:=by unfold aD;omega
 refine st Tryz.func356 fun w0 => ?_
 refine gc (pK m b.length hb) ?_
 rintro _ _ ⟨rfl,rfl⟩
 refine gm ?_;intro g
 have zI:(List.replicate (aD b.length*128) (Value.int .u8 0)).take 0++(ak b).take (min b.length (aD b.length*128))++(List.replicate (aD b.length*128) (Value.int .u8 0)).drop (0+min b.length (aD b.length*128))=ak (jD b):=by
  rw [Nat.min_eq_left ek.2,List.take_zero,List.nil_append,List.take_of_length_le (by rw [ai];omega),Nat.zero_add,List.drop_replicate,jD,aE]
  simp [ak]
 refine gy ?_
 refine gz ?_
 exact fin ⟨g,rfl,rfl⟩ aa
section
variable (p:Nat)(qs:List Nat)(m n:Nat)(ls:List (Option Lv))(mk:Nat->eR)(lk:List (Option (Nat×Nat)))(hn:324<=n/\n<=8192)(iK:ls.length<=5)
include hn iK
theorem Oe (R:Rk)(C M L:Chunk)(hC:br p qs R C)(hM:J7 m ls lk (n - 292) M)(hL:iw mk 0 ls L)(ho:dI qs R n ls)(hall:∀x∈ls,x≠none)(eP:1<=ls.length)
  (at_ txg:Nat) (b:List UInt8) (k:Nat) (hk:b.length=k) (hb:1<=k/\k<=1024) (hf:at_+aD k+292<=n) (ht:1<=txg/\txg<=281474976710656) (O:Chunk) (v:Value) (hO:Rd O 1 v k (ak b)) (hw:R.ws.length+40<=900000000000) :
  Ct 351 [ptr m,.int .i64 at_,v,.int .u64 txg] [C,M,L,O] fun u Bs=>∃C',u = .int .i64 (if (R.run (upto (nG ls at_ b) ls.length)).off then 5 else 0)/\br p qs (R.run (upto (nG ls at_ b) ls.length)) C'/\Bs=[C',M,L,O]:=by
 subst hk
 obtain ⟨ad,c,Cv,g,ou,gM,rfl⟩:=hM
 have Fb:=ou.rd
 have ek:1<=aD b.length/\aD b.length<=8:=by unfold aD;omega
 obtain ⟨j2,cv,rfl⟩:=hO.slice
 refine st Tryz.func351 fun w0 => ?_
 refine gs ?_
 refine ge ?_
 refine gc (pK m b.length hb) ?_
 rintro _ _ ⟨rfl,rfl⟩
 refine gl [0,1,2,3,30,31] (fun ((j,t9,_):Nat×Bool×Chunk)=>[(32,.int .i64 j),(9,.bool t9)]) (fun (_,_,C)=>[C]) (fun (j,t9,C)=>j<=ls.length/\t9=decide (0<j)/\br p qs (R.run (upto (nG ls at_ b) j)) C/\(0<j->(R.run (upto (nG ls at_ b) j)).off=false)) (fun (j,_)=>ls.length - j) (0,false,C) ⟨by omega,rfl,hC,fun h0=>absurd h0 oZ⟩ ?_
 rintro ⟨j,t9,C⟩ ⟨hj,rfl,hC,jt⟩
 refine gi ?_ ?_ <;> intro bh
 ·obtain ⟨ox,hx⟩:=eB (l:=ls) (i:=j) oZ
  rcases ox with _ | x
  ·exact absurd rfl (hall _ (List.mem_of_getElem? hx))
  have Ti:=List.mem_of_getElem? hx
  obtain ⟨o1,o2,o3⟩:=ho.run (upto (nG ls at_ b) j) x Ti
  have bV:(ls.map iv)[j]? = some (ptr x.a):=by rw [List.getElem?_map,hx];rfl
  obtain ⟨A,L1,B,pL,rfl⟩:=hL.at hx
  obtain ⟨Yv,off,rfl⟩:=Fb.addr oZ
  have Cz:=Rk.iJ R (upto (nG ls at_ b) j)
  have zj:=cR (CI ls at_ hb.2) j
  have hmf:nG ls at_ b j=fS x.i (274+at_) (kG b):=by unfold nG;rw [hx]
  refine gs ?_
  refine gc (J8 m b b.length rfl hb O _ hO) ?_
  rintro _ _ ⟨g2,rfl,rfl⟩
  have hg2:Rd [(g2,av (ak (jD b)) 5)] 1 (.slice (some ⟨g2,0,none⟩) (aD b.length*128) (aD b.length*128)) (aD b.length*128) (ak (kG b).flatten):=by
   rw [(kH b).2];exact aw (by rw [ai,u9];omega) (aK _) oZ _
  have nF:=ye p qs _ C hC x.i x.q n x.a (mk (0+j)) L1 pL o1 o2 o3 hn at_ (aD b.length) (kG b) _ _ (aD b.length*128) (kH b).1 (gX b) oZ hg2 (Nat.le_refl _) oZ
  rw [<-hmf,<-dO] at nF
  refine gc nF ?_
  rintro _ _ ⟨C',rfl,bA,rfl⟩
  cases dN:(R.run (upto (nG ls at_ b) (j+1))).off with
  | true =>
   refine gz ?_
   rw [jr dN (by omega:j+1<=ls.length),dN]
   exact fin ⟨C',rfl,bA,rfl⟩ aa
  | false =>
   refine gn ?_
   exact ⟨(j+1,true,C'),⟨by omega,by simp,bA,fun _=>dN⟩,by simp only;omega,aq,_,aa⟩
 ·obtain rfl:j=ls.length:=by omega
  rw [decide_eq_true (show 0<ls.length by omega)]
  refine gz ?_
  rw [jt oZ]
  exact fin ⟨C,rfl,hC,rfl⟩ aa
end
end Go.Proofs.YtcfioaeamfappaaGreatDoor
