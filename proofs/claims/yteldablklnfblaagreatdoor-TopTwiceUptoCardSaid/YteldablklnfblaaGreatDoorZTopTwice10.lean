/-
  Texts put together (10).
-/
import Derived.Test.YteldablklnfblaaGreatDoorZTopTwice9
namespace Go.Proofs.YteldablklnfblaaGreatDoor
open Go.Sl
set_option maxRecDepth 10000
set_option maxHeartbeats 4000000
theorem gZ (p:Nat)(l:List Sp)(mn:Int)(ad:Option Addr)(c:Nat)(D:Chunk)(hD:az D 143 2 (.slice ad l.length c) l.length (l.flatMap Sp.lay))(hl:l.length<=4096)(a b:Nat)(hab:a<=b/\b<=l.length)(X:Chunk)(WR:Option Addr)(cx:Nat)(x:List Sp)(m:Nat)(hm:x.length=m)(hX:Rd X 2 (.slice WR m cx) m (x.flatMap Sp.lay))(hf:l.length - (b - a)+m<=4096) :
  Ct 145 [ptr p,.int .i64 a,.int .i64 b,.slice WR m cx] [[(p,rsO (.slice ad l.length c) mn)],D,X] fun u Bs=>u = .int .i64 0/\∃A,Mv p (l.take a++x++l.drop b) mn A/\Bs=[A,X]:=by
 have jw:=hD.rd
 have abx:=hD.dN
 have R7:IntKind.i64.wrap ((b:Int) - a)=((b - a:Nat):Int):=by rw [IntWalk.i64_in _ oZ];omega
 have MN:IntKind.i64.wrap ((l.length:Int) - ((b - a:Nat):Int))=((l.length - (b - a):Nat):Int):=by rw [IntWalk.i64_in _ oZ];omega
 have hw3:IntKind.i64.wrap (((l.length - (b - a):Nat):Int)+(m:Nat))=((l.length - (b - a)+m:Nat):Int):=by rw [IntWalk.i64_in _ oZ];omega
 have hy1:((l.flatMap Sp.lay).drop (0*2)).take ((a - 0)*2)=(l.take a).flatMap Sp.lay:=by rw [Nat.zero_mul,List.drop_zero,Nat.sub_zero,lH]
 have Mq:a - 0=a:=rfl
 have hy2:((l.flatMap Sp.lay).drop (b*2)).take ((l.length - b)*2)=(l.drop b).flatMap Sp.lay:=by
  rw [p6,lH,List.take_of_length_le (by rw [List.length_drop];omega)]
 refine st Tryz.func145 fun w0 => ?_
 refine qM [[(p,rsO (.slice ad l.length c) mn)]] [0,4,8,12,16,20,24,28,32,36,40,44,48,52,56,60,64,68,72,76,80,84,88,92,96,101,105,108,112,119] ?_
 refine gw ?_;intro iK hR1
 refine gw ?_;intro ad2 kD
 refine gm ?_;intro b47
 have afQ:Rd D 2 (.slice iK (l.take a).length (a - 0)) (l.take a).length ((l.take a).flatMap Sp.lay):=by rw [List.length_take,Nat.min_eq_left oZ];exact hR1
 have afR:Rd D 2 (.slice ad2 (l.drop b).length (l.length - b)) (l.drop b).length ((l.drop b).flatMap Sp.lay):=by rw [List.length_drop];exact kD
 have hS:Sls (D++X) [(.slice iK a (a - 0),l.take a),(.slice WR m cx,x),(.slice ad2 (l.length - b) (l.length - b),l.drop b)]:=by
  refine ⟨fun y hy => ?_,fun y hy => ?_,by simp, ?_⟩
  ·simp only [List.mem_cons,List.not_mem_nil,or_false] at hy
   rcases hy with rfl | rfl | rfl
   ·have h:(l.take a).length=a:=by rw [List.length_take];omega
    simp only [h]
    exact hR1.sub fun q hq=>List.mem_append_left _ hq
   ·simp only [hm]
    exact hX.sub fun q hq=>List.mem_append_right _ hq
   ·have h:(l.drop b).length=l.length - b:=by rw [List.length_drop]
    simp only [h]
    exact kD.sub fun q hq=>List.mem_append_left _ hq
  ·simp only [List.mem_cons,List.not_mem_nil,or_false] at hy
   rcases hy with rfl | rfl | rfl
   ·exact ⟨iK,a - 0,by simp only [List.length_take];rw [Nat.min_eq_left oZ]⟩
   ·exact ⟨WR,cx,by rw [hm]⟩
   ·exact ⟨ad2,l.length - b,by simp only [List.length_drop]⟩
  ·simp only [nO,List.flatMap_cons,List.flatMap_nil,List.length_append,List.length_take,List.length_drop,List.length_nil,hm];omega
 have hV:Rd [(b47,ax [.slice iK a (a - 0),.slice WR m cx,.slice ad2 (l.length - b) (l.length - b)] 122)] 1 (.slice (some ⟨b47,0,none⟩) 3 3) 3 [.slice iK a (a - 0),.slice WR m cx,.slice ad2 (l.length - b) (l.length - b)]:=av rfl (by simp [Value.oneCell']) oZ _
 have hcc:=KF _ (D++X) _ 3 _ rfl hV hS
 refine gc hcc ?_
 rintro u _ ⟨C,hC,rfl⟩
 have hle:nO [(.slice iK a (a - 0),l.take a),(.slice WR m cx,x),(.slice ad2 (l.length - b) (l.length - b),l.drop b)]=(l.take a++x++l.drop b).length:=by simp [nO]
 rw [hle] at hC
 obtain ⟨adc,ccp,rfl⟩:=hC.slice
 have Cu:az C 143 2 (.slice adc (l.take a++x++l.drop b).length ccp) (l.take a++x++l.drop b).length ((l.take a++x++l.drop b).flatMap Sp.lay):=by simpa using hC
 refine gs ?_
 refine gz ?_
 exact fin ⟨rfl,_,⟨adc,ccp,C,Cu,rfl⟩,rfl⟩ aa
end Go.Proofs.YteldablklnfblaaGreatDoor
namespace Go.Sl
structure Rp (s:Int)(P:Int->Prop)(l:List Sp):Prop where
 gd:Gd l
 mem:∀n,Sl.l3 l n↔P n
 lim:∀n,P n->0<=n/\n<s
theorem Za {s:Int}{l:List Sp}(h:Gd l):∀b:Int,(∀y∈l,b<=y.at_/\y.fin<=s)->2*(l.length:Int)<=max 0 (s - b+1):=by
 induction l with
 | nil=>intro b _;simp only [List.length_nil];omega
 | cons y r ih =>
  intro b hb
  obtain ⟨h1,h2,h3⟩:=cd.1 h
  have h6:=Sp.aw.1 h1
  have h4:=hb y (List.mem_cons_self ..)
  have h5:=ih h3 (y.fin+1) (fun z hz=>⟨by have:=h2 z hz;omega,(hb z (List.mem_cons_of_mem _ hz)).2⟩)
  simp only [List.length_cons,Sp.fin] at *
  omega
section
variable {s:Int}{P Q:Int->Prop}{l m:List Sp}{x:Sp}
theorem Rp.in (h:Rp s P l){y:Sp}(hy:y∈l):0<=y.at_/\y.fin<=s:=by
 have m1:=Sp.aw.1 (h.gd.may y hy)
 have h1:=h.lim _ ((h.mem y.at_).1 ⟨y,hy,by simp only [Sp.has,Sp.fin];omega⟩)
 have h2:=h.lim _ ((h.mem (y.fin - 1)).1 ⟨y,hy,by simp only [Sp.has,Sp.fin];omega⟩)
 simp only [Sp.fin] at *;omega
theorem Rp.len (h:Rp s P l)(hs:s<=8191):l.length<=4096:=by
 have:=Za h.gd 0 (fun y hy=>h.in hy)
 omega
theorem Rp.congr (h:Rp s P l)(hpq:∀n,P n↔Q n):Rp s Q l:=⟨h.gd,fun n=>(h.mem n).trans (hpq n),fun n hn=>h.lim n ((hpq n).2 hn)⟩
theorem Zb (s:Int):Rp s (fun _=>False) []:=⟨Ah,fun n=>by simp [l3],fun _ h=>h.elim⟩
def fW (n:Int):List Sp:=if 0<n then [⟨0,n⟩] else []
def sfx (k n:Int):List Sp:=if k<n then [⟨k,n - k⟩] else []
theorem KH (n:Int):fW n=sfx 0 n:=by simp [fW,sfx]
theorem Zc {k n:Int}(hk:0<=k)(hn:n<=1099511627776):Rp n (fun i=>k<=i/\i<n) (sfx k n):=by
 unfold sfx
 split
 ·refine ⟨cd.2 ⟨by rw [Sp.aw];simp only;omega,by simp,Ah⟩,fun i => ?_,fun i hi=>⟨by omega,hi.2⟩⟩
  simp only [GG,Sp.has,Sp.fin];omega
 ·refine ⟨Ah,fun i => ?_,fun i hi=>⟨by omega,hi.2⟩⟩
  simp only [l3,List.not_mem_nil,false_and,exists_false,false_iff];omega
theorem wa {n:Int}(hn:n<=1099511627776):Rp n (fun i=>0<=i/\i<n) (fW n):=by rw [KH];exact Zc oZ hn
theorem Rp.has (h:Rp s P l)(hx:x.may=true):lZ l x=true↔∀n,x.has n->P n:=by
 constructor
 ·intro hh n hn
  obtain ⟨y,hy,h1,h2⟩:=vR h.gd hh
  exact (h.mem n).1 ⟨y,hy,by simp only [Sp.has] at *;omega⟩
 ·intro hp
  exact O7 h.gd hx (cover h.gd hx fun n hn=>(h.mem n).2 (hp n hn))
theorem Rp.meets (h:Rp s P l)(hx:x.may=true):eb l x=true↔∃n,x.has n/\P n:=by
 have m1:=Sp.aw.1 hx
 simp only [eb,hx,Bool.true_and,decide_eq_true_eq,ns h.gd hx]
 constructor
 ·rintro ⟨y,hy,h1,h2⟩
  have m2:=Sp.aw.1 (h.gd.may y hy)
  refine ⟨max x.at_ y.at_,by simp only [Sp.has,Sp.fin] at *;omega,(h.mem _).1 ⟨y,hy,by simp only [Sp.has,Sp.fin] at *;omega⟩⟩
 ·rintro ⟨n,hn,hp⟩
  obtain ⟨y,hy,hyn⟩:=(h.mem n).2 hp
  exact ⟨y,hy,by simp only [Sp.has] at *;omega,by simp only [Sp.has] at *;omega⟩
theorem Rp.yz (h:Rp s P l)(hx:x.may=true):eb l x=false↔∀n,x.has n->¬P n:=by
 rw [<-Bool.not_eq_true,h.meets hx]
 constructor
 ·intro q n hn hp;exact q ⟨n,hn,hp⟩
 ·rintro q ⟨n,hn,hp⟩;exact q n hn hp
theorem Rp.aby (h:Rp s P l)(hx:x.may=true)(h2:x.fin<=s)(hd:∀n,x.has n->¬P n)(hl:s<=8191\/l.length<=4000):vN l x=0/\Rp s (fun n=>P n\/x.has n) (GC l x)/\cy (GC l x)=cy l+x.many:=by
 have m1:=Sp.aw.1 hx
 have hap:=Am h.gd hx (fun n hn hxn=>hd n hxn ((h.mem n).1 hn))
 have I:=vE h.gd hx hap
 have R:Rp s (fun n=>P n\/x.has n) (bM l x false):=⟨I.gd,fun n=>by rw [I.mem,h.mem],fun n hn=>by
  rcases hn with hn | hn
  ·exact h.lim n hn
  ·simp only [Sp.has] at hn;omega⟩
 have c:vN l x=0:=O8 h.gd hx hap (by
  rcases hl with hl | hl
  ·exact R.len hl
  ·have:=I.len;omega)
 refine ⟨c,by rw [tJ c];exact R,rI h.gd c⟩
theorem Rp.abz (h:Rp s P l)(hx:x.may=true)(hd:∀n,x.has n->P n)(hl:s<=8191\/l.length<=4000):xC l x=0/\Rp s (fun n=>P n/\¬x.has n) (GF l x)/\cy (GF l x)=cy l - x.many:=by
 have hh:=(h.has hx).2 hd
 have J:=yv h.gd hx (vR h.gd hh)
 have R:Rp s (fun n=>P n/\¬x.has n) (lG l x):=⟨J.gd,fun n=>by rw [J.mem,h.mem],fun n hn=>h.lim n hn.1⟩
 have c:xC l x=0:=by
  unfold xC
  rw [if_pos hh,if_neg]
  rcases hl with hl | hl
  ·have:=R.len hl;omega
  ·have:=J.len;omega
 exact ⟨c,by rw [tL c];exact R,rJ h.gd c⟩
theorem Rp.find (h:Rp s P l){k a:Int}(hf:gH l k 0=(a,true)):(⟨a,k⟩:Sp).may=true/\0<=a/\1<=k/\a+k<=s/\∀n,(⟨a,k⟩:Sp).has n->P n:=by
 obtain ⟨h1,h2, -⟩:=find_spec h.gd hf
 have hm:=tK h2
 have m1:=Sp.aw.1 hm
 have h3:=(h.has hm).1 h2
 have h4:=h.lim _ (h3 (a+k - 1) (by simp only [Sp.has,Sp.fin] at *;omega))
 simp only at m1
 exact ⟨hm,h1,by omega,by omega,h3⟩
theorem Rp.Zd (h:Rp s P l){k a b:Int}(hk:1<=k)(hf:gH l k 0=(a,false))(hb:0<=b)(hbm:b+k<=1099511627776)(hp:∀n,(⟨b,k⟩:Sp).has n->P n):False:=by
 obtain ⟨y,hy,h1,h2⟩:=vR h.gd ((h.has (by rw [Sp.aw];simp only;omega)).2 hp)
 simp only [Sp.fin] at h2
 obtain ⟨c,hc, -⟩:=GH h.gd hk (Int.le_refl 0) hy (by have:=h.in hy;simp only [Sp.fin] at *;omega) (by have:=h.in hy;simp only [Sp.fin] at *;omega)
 rw [hf] at hc
 cases hc
end
structure Pl where
 top:Int
 sp:Sp
deriving DecidableEq
def Pl.lay (p:Pl):List Value:=[.int .i64 p.top,.int .i64 p.sp.at_,.int .i64 p.sp.many]
theorem Pl.aj (p:Pl):p.lay.length=3:=rfl
structure Al where
 sizes:List Int
 free:List (List Sp)
 waits:List (List Sp)
 fI:List (Int×List Pl)
def jJ (txg k:Int):Bool:=decide (2<=txg/\k<=txg - 2)
section
variable {a b:Al}{p:Pl}{t:Nat}{l:List Sp}
theorem T5:Af []:=⟨by simp,by simp,by simp⟩
theorem KJ {n:Int}(hn:n<=40960):Af (fW n):=(wa oZ).gd.Mu (by unfold fW;split <;> simp)
end
section
variable {a:Al}{need:List Int}{t:Nat}{at_:Int}{l:List Sp}
end
def Ze (s m:Int)(D:List Nat)(n:Int):Prop:=0<=n/\n<s/\(n / m).toNat∉D
def Zf (m:Int)(W:List Nat)(n:Int):Prop:=0<=n/\(n / m).toNat∈W
def kP (m:Int)(k:Nat):Sp:=⟨k*m,m⟩
theorem oK {m n:Int}(hm:0<m)(k:Nat)(hn:0<=n):(n / m).toNat=k↔(kP m k).has n:=by
 simp only [kP,Sp.has,Sp.fin]
 have e:=Int.emod_add_mul_ediv n m
 have h1:=Int.emod_nonneg n (show m≠0 by omega)
 have h2:=Int.emod_lt_of_pos n hm
 have h0:=Int.ediv_nonneg hn (show 0<=m by omega)
 constructor
 ·rintro rfl
  rw [Int.toNat_of_nonneg h0,Int.mul_comm];omega
 ·rintro ⟨g1,g2⟩
  have h3:¬n / m<k:=fun h=>by
   have:=Int.mul_le_mul_of_nonneg_left (show n / m+1<=k by omega) (show 0<=m by omega)
   rw [Int.mul_add,Int.mul_comm m k] at this;omega
  have h4:¬(k:Int)+1<=n / m:=fun h=>by
   have:=Int.mul_le_mul_of_nonneg_left h (show 0<=m by omega)
   rw [Int.mul_add,Int.mul_comm m k] at this;omega
  omega
theorem DM {m n:Int}(hm:0<m)(hn:0<=n)(h:n % m≠0):(n - 1) / m=n / m:=by
 have e:=Int.emod_add_mul_ediv n m
 have h1:=Int.emod_nonneg n (show m≠0 by omega)
 have h2:=Int.emod_lt_of_pos n hm
 have:n - 1=(n % m - 1)+m*(n / m):=by omega
 rw [this,Int.add_mul_ediv_left _ _ oZ,Int.ediv_eq_zero_of_lt oZ oZ];omega
section
variable {s m:Int}{P:Int->Prop}{l:List Sp}{D W:List Nat}{k:Nat}
theorem Pe (h:Rp s P l)(hP:∀n,P n->n % m≠0->P (n - 1)):∀y∈l,y.at_ % m=0:=by
 intro y hy
 have m1:=Sp.aw.1 (h.gd.may y hy)
 refine Classical.byContradiction fun hc => ?_
 obtain ⟨z,hz,hzn⟩:=(h.mem _).2 (hP _ ((h.mem y.at_).1 ⟨y,hy,by simp only [Sp.has,Sp.fin];omega⟩) hc)
 have m2:=Sp.aw.1 (h.gd.may z hz)
 obtain ⟨i,hi,rfl⟩:=List.getElem_of_mem hy
 obtain ⟨j,hj,rfl⟩:=List.getElem_of_mem hz
 have g:=List.pairwise_iff_getElem.1 h.gd.yt
 simp only [Sp.has,Sp.fin] at *
 rcases Nat.lt_trichotomy i j with c | rfl | c
 ·have:=g i j hi hj c;omega
 ·omega
 ·have:=g j i hj hi c;omega
theorem Zg (hm:0<m)(h:Gd l)(h0:∀y∈l,y.at_ % m=0):∀b N:Int,b<=N->(∀y∈l,b<=y.at_ / m/\y.at_ / m<N)->(l.length:Int)<=N - b:=by
 induction l with
 | nil=>intro b N hb _;simp only [List.length_nil];omega
 | cons y r ih =>
  intro b N hb hy
  obtain ⟨h1,h2,h3⟩:=cd.1 h
  have m1:=Sp.aw.1 h1
  have hy0:=hy y (List.mem_cons_self ..)
  have:=ih h3 (fun z hz=>h0 z (List.mem_cons_of_mem _ hz)) (y.at_ / m+1) N oZ (fun z hz=>⟨by
   have k1:=h2 z hz
   have e1:=Int.emod_add_mul_ediv y.at_ m
   have e2:=Int.emod_add_mul_ediv z.at_ m
   rw [h0 y (List.mem_cons_self ..)] at e1
   rw [h0 z (List.mem_cons_of_mem _ hz)] at e2
   have:¬z.at_ / m<=y.at_ / m:=fun c=>by
    have:=Int.mul_le_mul_of_nonneg_left c (show 0<=m by omega)
    simp only [Sp.fin] at k1;omega
   omega,(hy z (List.mem_cons_of_mem _ hz)).2⟩)
  simp only [List.length_cons];omega
theorem rK (h:Rp s P l)(hm:8<=m)(hs:s<=10240)(hP:∀n,P n->n % m≠0->P (n - 1)):l.length<=1280:=by
 have:=Zg (m:=m) oZ h.gd (Pe h hP) 0 1280 oZ (fun y hy=>by
  have k:=h.in hy
  have m1:=Sp.aw.1 (h.gd.may y hy)
  refine ⟨Int.ediv_nonneg k.1 oZ,Int.ediv_lt_of_lt_mul oZ ?_⟩
  have:=Int.mul_le_mul_of_nonneg_left hm (show (0:Int)<=1280 by omega)
  simp only [Sp.fin] at k;omega)
 omega
theorem tM (hm:8<=m):∀n,Ze s m D n->n % m≠0->Ze s m D (n - 1):=fun n ⟨h1,h2,h3⟩ h=>by
 have:n≠0:=fun e=>h (by rw [e];exact Int.zero_emod _)
 exact ⟨by omega,by omega,by rwa [DM oZ h1 h]⟩
theorem Ao (hm:8<=m):∀n,Zf m W n->n % m≠0->Zf m W (n - 1):=fun n ⟨h1,h3⟩ h=>by
 have:n≠0:=fun e=>h (by rw [e];exact Int.zero_emod _)
 exact ⟨by omega,by rwa [DM oZ h1 h]⟩
abbrev Fw (s m:Int)(D:List Nat)(l:List Sp):Prop:=Rp s (Ze s m D) l
abbrev Mx (s m:Int)(W:List Nat)(l:List Sp):Prop:=Rp s (Zf m W) l
theorem Fw.Mu (h:Fw s m D l)(hm:8<=m)(hs:s<=10240):Af l:=h.gd.Mu (by have:=rK h hm hs (tM hm);omega)
theorem Mx.Mu (h:Mx s m W l)(hm:8<=m)(hs:s<=10240):Af l:=h.gd.Mu (by have:=rK h hm hs (Ao hm);omega)
theorem jA (hm:8<=m)(hs:s<=10240)(hk:(k+1:Int)*m<=s):(kP m k).may=true/\0<=k*m/\(kP m k).fin<=s:=by
 have h0:=Int.mul_nonneg (show (0:Int)<=k by omega) (show 0<=m by omega)
 rw [Int.add_mul,Int.one_mul] at hk
 refine ⟨?_,h0,by simp only [kP,Sp.fin];omega⟩
 rw [Sp.aw];simp only [kP];omega
theorem KK (hs:s<=10240):Fw s m [] (fW s):=(wa oZ).congr fun n=>by simp [Ze]
theorem KL:Mx s m [] []:=(Zb s).congr fun n=>by simp [Zf]
theorem ke (hm:8<=m){n:Int}(h:(kP m k).has n):0<=n/\(n / m).toNat=k:=by
 have h0:=Int.mul_nonneg (show (0:Int)<=k by omega) (show 0<=m by omega)
 have:0<=n:=by have:=h.1;simp only [kP] at this;omega
 exact ⟨this,(oK oZ k this).2 h⟩
theorem Fw.take (h:Fw s m D l)(hm:8<=m)(hs:s<=10240)(hk:(k+1:Int)*m<=s)(hd:k∉D):xC l (kP m k)=0/\Fw s m (k :: D) (GF l (kP m k)):=by
 obtain ⟨h1,h2,h3⟩:=jA hm hs hk
 obtain ⟨g1,g2, -⟩:=Rp.abz h h1 (fun n hn=>by
  obtain ⟨q1,q2⟩:=ke hm hn
  exact ⟨q1,by have:=hn.2;omega,by rwa [q2]⟩) (.inr (by have:=rK h hm hs (tM hm);omega))
 refine ⟨g1,g2.congr fun n => ?_⟩
 simp only [Ze,List.mem_cons,not_or]
 constructor
 ·rintro ⟨⟨q1,q2,q3⟩,q4⟩
  exact ⟨q1,q2,fun e=>q4 ((oK oZ k q1).1 e),q3⟩
 ·rintro ⟨q1,q2,q4,q3⟩
  exact ⟨⟨q1,q2,q3⟩,fun e=>q4 ((oK oZ k q1).2 e)⟩
theorem Fw.back (h:Fw s m D l)(hm:8<=m)(hs:s<=10240)(hk:(k+1:Int)*m<=s)(hd:k∈D):vN l (kP m k)=0/\Fw s m (D.filter fun j=>j != k) (GC l (kP m k)):=by
 obtain ⟨h1,h2,h3⟩:=jA hm hs hk
 obtain ⟨g1,g2, -⟩:=Rp.aby h h1 h3 (fun n hn hp=>hp.2.2 (by rw [(ke hm hn).2];exact hd)) (.inr (by have:=rK h hm hs (tM hm);omega))
 refine ⟨g1,g2.congr fun n => ?_⟩
 simp only [Ze,List.mem_filter,bne_iff_ne,ne_eq,not_and,Classical.not_not]
 constructor
 ·rintro (⟨q1,q2,q3⟩ | q)
  ·exact ⟨q1,q2,fun e=>absurd e q3⟩
  ·obtain ⟨q1,q2⟩:=ke hm q
   exact ⟨q1,by have:=q.2;omega,fun _=>q2⟩
 ·rintro ⟨q1,q2,q3⟩
  by_cases c:(n / m).toNat∈D
  ·exact .inr ((oK oZ k q1).1 (q3 c))
  ·exact .inl ⟨q1,q2,c⟩
theorem Mx.add (h:Mx s m W l)(hm:8<=m)(hs:s<=10240)(hk:(k+1:Int)*m<=s)(hd:k∉W):vN l (kP m k)=0/\Mx s m (W++[k]) (GC l (kP m k)):=by
 obtain ⟨h1,h2,h3⟩:=jA hm hs hk
 obtain ⟨g1,g2, -⟩:=Rp.aby h h1 h3 (fun n hn hp=>hd (by have:=hp.2;rwa [(ke hm hn).2] at this)) (.inr (by have:=rK h hm hs (Ao hm);omega))
 refine ⟨g1,g2.congr fun n => ?_⟩
 simp only [Zf,List.mem_append,List.mem_singleton]
 constructor
 ·rintro (⟨q1,q2⟩ | q)
  ·exact ⟨q1,.inl q2⟩
  ·obtain ⟨q1,q2⟩:=ke hm q
   exact ⟨q1,.inr q2⟩
 ·rintro ⟨q1,q2 | q2⟩
  ·exact .inl ⟨q1,q2⟩
  ·exact .inr ((oK oZ k q1).1 q2)
theorem Mx.rem (h:Mx s m W l)(hm:8<=m)(hs:s<=10240)(hk:(k+1:Int)*m<=s)(hd:k∈W):xC l (kP m k)=0/\Mx s m (W.filter fun j=>j != k) (GF l (kP m k)):=by
 obtain ⟨h1,h2,h3⟩:=jA hm hs hk
 obtain ⟨g1,g2, -⟩:=Rp.abz h h1 (fun n hn=>by
  obtain ⟨q1,q2⟩:=ke hm hn
  exact ⟨q1,by rwa [q2]⟩) (.inr (by have:=rK h hm hs (Ao hm);omega))
 refine ⟨g1,g2.congr fun n => ?_⟩
 simp only [Zf,List.mem_filter,bne_iff_ne,ne_eq]
 constructor
 ·rintro ⟨⟨q1,q2⟩,q4⟩
  exact ⟨q1,q2,fun e=>q4 ((oK oZ k q1).1 e)⟩
 ·rintro ⟨q1,q2,q4⟩
  exact ⟨⟨q1,q2⟩,fun e=>q4 ((oK oZ k q1).2 e)⟩
theorem Fw.meets (h:Fw s m D l)(hm:8<=m)(hs:s<=10240)(hk:(k+1:Int)*m<=s)(hd:k∈D):eb l (kP m k)=false :=
 (Rp.yz h (jA hm hs hk).1).2 fun n hn hp=>hp.2.2 (by rw [(ke hm hn).2];exact hd)
theorem Mx.meets (h:Mx s m W l)(hm:8<=m)(hs:s<=10240)(hk:(k+1:Int)*m<=s)(hd:k∉W):eb l (kP m k)=false :=
 (Rp.yz h (jA hm hs hk).1).2 fun n hn hp=>hd (by have:=hp.2;rwa [(ke hm hn).2] at this)
theorem KM (hm:8<=m)(hs:s<=10240)(hk:(k+1:Int)*m<=s):lZ (fW s) (kP m k)=true:=by
 obtain ⟨h1,h2,h3⟩:=jA hm hs hk
 refine (Rp.has (wa oZ) h1).2 fun n hn=>⟨(ke hm hn).1,by have:=hn.2;omega⟩
theorem Fw.find (h:Fw s m D l)(hm:8<=m)(hs:s<=10240){a:Int}(hf:gH l m 0=(a,true)):∃k:Nat,a=k*m/\(k+1:Int)*m<=s/\k∉D:=by
 obtain ⟨h1,h2,h3,h4,h5⟩:=Rp.find h hf
 have hy:a % m=0:=by
  unfold gH at hf
  rw [if_neg oZ] at hf
  obtain ⟨y,hy,e, -⟩:=vU hf
  have:=Pe h (tM hm) y hy
  have:=h.in hy
  rw [show a=y.at_ by omega];assumption
 have e:=Int.emod_add_mul_ediv a m
 have h0:=Int.ediv_nonneg h2 (show 0<=m by omega)
 rw [hy,Int.zero_add,Int.mul_comm] at e
 refine ⟨(a / m).toNat,by rw [Int.toNat_of_nonneg h0];exact e.symm,by rw [Int.add_mul,Int.toNat_of_nonneg h0,e];omega, ?_⟩
 exact (h5 a (by simp only [Sp.has,Sp.fin];omega)).2.2
theorem Fw.found (h:Fw s m D l)(hm:8<=m)(hs:s<=10240)(hk:(k+1:Int)*m<=s)(hd:k∉D):(gH l m 0).2=true:=by
 obtain ⟨h1,h2,h3⟩:=jA hm hs hk
 cases hc:(gH l m 0).2 with
 | true=>rfl
 | false =>
  have:=Rp.Zd h (k:=m) (a:=(gH l m 0).1) (b:=k*m) oZ (by rw [<-hc]) h2 (by simp only [kP,Sp.fin] at h3;omega) (fun n hn=>by
   obtain ⟨q1,q2⟩:=ke (k:=k) hm hn
   exact ⟨q1,by have:=hn.2;simp only [kP,Sp.fin] at *;omega,by rwa [q2]⟩)
  exact this.elim
end
structure Rm where
 D:List Nat
 fI:List (Int×List Nat)
def Rm.W (a:Rm):List Nat:=a.fI.flatMap (·.2)
structure Rm.Ok (s m:Int)(a:Rm):Prop where
 dl:∀k∈a.D,(k+1:Int)*m<=s
 wn:a.W.Nodup
 wd:∀k∈a.W,k∈a.D
def l4:List (Int×List Nat)->Int->Nat->List (Int×List Nat)
 | [],g,k=>[(g,[k])]
 | (j,l) :: r,g,k=>if j=g then (j,l++[k]) :: r else (j,l) :: l4 r g k
def Rm.free (a:Rm)(g:Int)(k:Nat):Rm:=⟨a.D,l4 a.fI g k⟩
def Rm.take (a:Rm)(k:Nat):Rm:=⟨k :: a.D,a.fI⟩
def Rm.sync (a:Rm)(t:Int):Rm:=⟨a.D.filter fun k => !((a.fI.filter fun g=>jJ t g.1).flatMap (·.2)).contains k,a.fI.filter fun g => !jJ t g.1⟩
end Go.Sl
namespace Go.Proofs.YteldablklnfblaaGreatDoor
open Go.Sl
set_option maxRecDepth 10000
set_option maxHeartbeats 4000000
theorem Pf (p:Nat)(l:List Sp)(mn:Int)(A:Chunk)(hA:Mv p l mn A)(hG:Af l)(x:Sp)(hh:lZ l x=true)(hlen:(lG l x).length<=4096)(hmn:0<=mn/\mn<=1099511627776):Ct 96 [ptr p,x.agg] [A] fun u Bs=>u = .int .i64 0/\∃A',Mv p (lG l x) (mn - x.many) A'/\Bs=[A']:=by
 have hm:=tK hh
 have Gf:=Sp.aw.1 hm
 have hha:=Pa p l mn A hA hG x oZ
 rw [hh] at hha
 refine st Tryz.func96 fun w0 => ?_
 refine ga ?_;intro b3
 refine gc hha ?_
 rintro _ _ ⟨rfl,rfl⟩
 refine gc (nu p l mn x.at_ A hA hG) ?_
 rintro _ _ ⟨k,rfl,hk,rfl⟩
 obtain ⟨ad,c,D,hD,rfl⟩:=hA
 have jw:=hD.rd
 obtain ⟨lY,h1,h2⟩:=(tH hG.gd hm hk).1 hh
 have gA:=hG.at lY
 have rL:=TW hG.gd hm hk lY h1 h2
 obtain ⟨g,off,rfl⟩:=jw.addr oZ
 have hs:=ar Sp.aj l k _ (List.getElem?_eq_getElem lY)
 obtain ⟨y,hy⟩:∃y,y=l[k]:=⟨_,rfl⟩
 rw [<-hy] at gA hs rL h1 h2
 refine gs ?_
 refine ga ?_;intro b6
 have xA:=hG.len
 have T6:¬x.common y=0:=by unfold Sp.common;rw [if_neg (by simp only [Sp.fin] at *;omega)];simp only [Sp.fin] at *;omega
 have hfy:y.fin=y.at_+y.many:=rfl
 have hfx:x.fin=x.at_+x.many:=rfl
 have R7:IntKind.i64.wrap (x.at_ - y.at_)=x.at_ - y.at_:=IntWalk.i64_in _ oZ
 have MN:IntKind.i64.wrap (y.fin - x.fin)=y.fin - x.fin:=IntWalk.i64_in _ oZ
 have hw3:IntKind.i64.wrap (mn - x.many)=mn - x.many:=IntWalk.i64_in _ oZ
 have hey:=iO y oZ
 have hex:=iO x oZ
 refine gi ?_ ?_ <;> intro h3
 ·have h3:y.at_<x.at_:=by simpa using h3
  refine gm ?_;intro b38
  refine gp ?_;intro sX c7 C7 hC7
  refine gd [0,8,5,15,18] ?_
  refine gc hey ?_
  rintro _ _ ⟨rfl,rfl⟩
  refine gc hex ?_
  rintro _ _ ⟨rfl,rfl⟩
  refine gi ?_ ?_ <;> intro h4
  ·have h4:x.fin<y.fin:=by simpa using h4
   refine gd [0,4,12,20,9,17,25,28,32,37,43,46] ?_
   refine gc hex ?_
   rintro _ _ ⟨rfl,rfl⟩
   refine gc hey ?_
   rintro _ _ ⟨rfl,rfl⟩
   refine gc hex ?_
   rintro _ _ ⟨rfl,rfl⟩
   refine gm ?_;intro b54
   refine gp ?_;intro yn c8 C8 Ml
   have O3:ew x y=[⟨y.at_,x.at_ - y.at_⟩,⟨x.fin,y.fin - x.fin⟩]:=by unfold ew;rw [if_neg T6,if_pos h3,if_pos h4];rfl
   rw [O3] at rL
   have bL:=gZ p l mn (some ⟨g,off,none⟩) c D hD hG.len k (k+1) oZ _ _ _ [⟨y.at_,x.at_ - y.at_⟩,⟨x.fin,y.fin - x.fin⟩] 2 rfl Ml.rd (by rw [rL] at hlen;simp only [List.length_append,List.length_take,List.length_drop,List.length_cons,List.length_nil] at hlen;omega)
   rw [<-rL] at bL
   refine gc bL ?_
   rintro _ _ ⟨rfl,A',dY,rfl⟩
   obtain ⟨ba,c',D',eo,rfl⟩:=dY
   refine gs ?_
   refine gz ?_
   exact fin ⟨rfl,_,⟨ba,c',D',eo,rfl⟩,rfl⟩ aa
  ·have h4:¬x.fin<y.fin:=by simpa using h4
   have O3:ew x y=[⟨y.at_,x.at_ - y.at_⟩]:=by unfold ew;rw [if_neg T6,if_pos h3,if_neg h4];rfl
   rw [O3] at rL
   have bL:=gZ p l mn (some ⟨g,off,none⟩) c D hD hG.len k (k+1) oZ _ _ _ [⟨y.at_,x.at_ - y.at_⟩] 1 rfl hC7.rd (by rw [rL] at hlen;simp only [List.length_append,List.length_take,List.length_drop,List.length_cons,List.length_nil] at hlen;omega)
   rw [<-rL] at bL
   refine gc bL ?_
   rintro _ _ ⟨rfl,A',dY,rfl⟩
   obtain ⟨ba,c',D',eo,rfl⟩:=dY
   refine gs ?_
   refine gz ?_
   exact fin ⟨rfl,_,⟨ba,c',D',eo,rfl⟩,rfl⟩ aa
 ·have h3:¬y.at_<x.at_:=by simpa using h3
  refine gd [0,8,5,15,18] ?_
  refine gc hey ?_
  rintro _ _ ⟨rfl,rfl⟩
  refine gc hex ?_
  rintro _ _ ⟨rfl,rfl⟩
  refine gi ?_ ?_ <;> intro h4
  ·have h4:x.fin<y.fin:=by simpa using h4
   refine gd [0,4,12,20,9,17,25,28,32,37,43,46] ?_
   refine gc hex ?_
   rintro _ _ ⟨rfl,rfl⟩
   refine gc hey ?_
   rintro _ _ ⟨rfl,rfl⟩
   refine gc hex ?_
   rintro _ _ ⟨rfl,rfl⟩
   refine gm ?_;intro b54
   refine gp ?_;intro yn c8 C8 Ml
   have O3:ew x y=[⟨x.fin,y.fin - x.fin⟩]:=by unfold ew;rw [if_neg T6,if_neg h3,if_pos h4];rfl
   rw [O3] at rL
   have bL:=gZ p l mn (some ⟨g,off,none⟩) c D hD hG.len k (k+1) oZ _ _ _ [⟨x.fin,y.fin - x.fin⟩] 1 rfl Ml.rd (by rw [rL] at hlen;simp only [List.length_append,List.length_take,List.length_drop,List.length_cons,List.length_nil] at hlen;omega)
   rw [<-rL] at bL
   refine gc bL ?_
   rintro _ _ ⟨rfl,A',dY,rfl⟩
   obtain ⟨ba,c',D',eo,rfl⟩:=dY
   refine gs ?_
   refine gz ?_
   exact fin ⟨rfl,_,⟨ba,c',D',eo,rfl⟩,rfl⟩ aa
  ·have h4:¬x.fin<y.fin:=by simpa using h4
   have O3:ew x y=([]:List Sp):=by unfold ew;rw [if_neg T6,if_neg h3,if_neg h4];rfl
   rw [O3] at rL
   have bL:=gZ p l mn (some ⟨g,off,none⟩) c D hD hG.len k (k+1) oZ _ _ _ ([]:List Sp) 0 rfl (Rd.nil [] 2) (by rw [rL] at hlen;simp only [List.length_append,List.length_take,List.length_drop,List.length_cons,List.length_nil] at hlen;omega)
   rw [<-rL] at bL
   refine gc bL ?_
   rintro _ _ ⟨rfl,A',dY,rfl⟩
   obtain ⟨ba,c',D',eo,rfl⟩:=dY
   refine gs ?_
   refine gz ?_
   exact fin ⟨rfl,_,⟨ba,c',D',eo,rfl⟩,rfl⟩ aa
theorem GP (p:Nat)(l:List Sp)(mn:Int)(A:Chunk)(hA:Mv p l mn A)(hG:Af l)(x:Sp)(hm:x.may=true)(Wb:eb l x=false)(hlen:(bM l x false).length<=4096)(hmn:0<=mn/\mn<=1099511627776):Ct 141 [ptr p,x.agg] [A] fun u Bs=>u = .int .i64 0/\∃A',Mv p (bM l x false) (mn+x.many) A'/\Bs=[A']:=by
 have Gf:=Sp.aw.1 hm
 have hme:=vX p l mn A hA hG x oZ
 have hma:=GJ x oZ
 rw [Wb] at hme
 rw [hm] at hma
 have xA:=hG.len
 refine st Tryz.func141 fun w0 => ?_
 refine ga ?_;intro b3
 refine gc hma ?_
 rintro _ _ ⟨rfl,rfl⟩
 refine gc hme ?_
 rintro _ _ ⟨rfl,rfl⟩
 refine gc (nu p l mn x.at_ A hA hG) ?_
 rintro _ _ ⟨k,rfl,hk,rfl⟩
 obtain ⟨ad,c,D,hD,rfl⟩:=hA
 have jw:=hD.rd
 have lY:=hk.1
 have xv:∀h:k<l.length,x.fin<=l[k].at_:=fun h=>by
  have:=rH hG.gd hm hk
  rw [Wb] at this
  have h2:¬l[k].at_<x.fin:=fun q=>by simp at this;have:=this h;omega
  omega
 refine gs ?_
 have hw9:IntKind.i64.wrap (mn+x.many)=mn+x.many:=IntWalk.i64_in _ oZ
 refine gd [0,4,8,12,16,20,24,28,32,36,40,48,52,45,56,60] ?_
 refine gg ?_ ?_ <;> intro xZ
 ·have xZ:0<k:=by omega
  have hk1:k - 1<l.length:=by omega
  have gA:=hG.at hk1
  obtain ⟨g,off,rfl⟩:=jw.addr oZ
  have hs:=ar Sp.aj l (k - 1) _ (List.getElem?_eq_getElem hk1)
  have hkw:IntKind.i64.wrap ((k:Int) - 1)=((k - 1:Nat):Int):=by rw [IntWalk.i64_in _ oZ];omega
  refine gc (iO l[k - 1] oZ) ?_
  rintro _ _ ⟨rfl,rfl⟩
  refine gi ?_ ?_ <;> intro he
  ·have he:(l[k - 1]).fin=x.at_:=by simpa using he
   have abA:=fun (su:k<l.length) (h2:l[k].at_=(⟨(l[k - 1]).at_,(l[k - 1]).many+x.many⟩:Sp).fin)=>wLR hG.gd hm su xZ he h2
   have hwL:=fun (h2:¬ ∃h:k<l.length,l[k].at_=(⟨(l[k - 1]).at_,(l[k - 1]).many+x.many⟩:Sp).fin)=>wL hG.gd hm lY xZ he xv h2
   have CQ:=GI hG.gd hm lY xZ he
   obtain ⟨x1,hxd⟩:∃x1:Sp,x1=⟨(l[k - 1]).at_,(l[k - 1]).many+x.many⟩:=⟨_,rfl⟩
   have hxa:(l[k - 1]).at_=x1.at_:=by rw [hxd]
   have TI:(l[k - 1]).many+x.many=x1.many:=by rw [hxd]
   rw [<-hxd] at CQ hwL abA
   have afS:=Sp.aw.1 CQ
   have xp:=hs 0 _ rfl
   have xu:=hs 1 _ rfl
   have hwx:IntKind.i64.wrap ((l[k - 1]).many+x.many)=x1.many:=by rw [TI];exact IntWalk.i64_in _ oZ
   rw [hxa] at xp
   refine go ?_
   refine gd [0,4,8,12,16,20,24,28,32,36,40,44,48,52,56,60,64,69,72,76] ?_
   refine gg ?_ ?_ <;> intro su
   ·have su:k<l.length:=by omega
    have abB:=hG.at su
    have lX:=ar Sp.aj l k _ (List.getElem?_eq_getElem su)
    have Pb:=lX 0 _ rfl
    have Pc:=lX 1 _ rfl
    refine gc (iO x1 oZ) ?_
    rintro _ _ ⟨rfl,rfl⟩
    refine gi ?_ ?_ <;> intro xh
    ·have xh:l[k].at_=x1.fin:=by simpa using xh
     have OB:IntKind.i64.wrap (x1.many+l[k].many)=x1.many+l[k].many:=IntWalk.i64_in _ oZ
     refine gm ?_;intro iz
     have hw:=(by have:=abA su xh;rw [hxa,TI] at this;exact this)
     have xD:Rd [(iz,ax [.int .i64 x1.at_,.int .i64 (x1.many+l[k].many)] 143)] 2 (.slice (some ⟨iz,0,none⟩) 1 1) 1 [.int .i64 x1.at_,.int .i64 (x1.many+l[k].many)]:=av rfl (by simp [Value.oneCell']) oZ _
     have bL:=gZ p l mn _ c D hD xA (k - 1) (k+1) oZ _ _ _ [⟨x1.at_,x1.many+l[k].many⟩] 1 rfl xD (by have:=congrArg List.length hw;simp only [List.length_append,List.length_take,List.length_drop,List.length_cons,List.length_nil] at this;omega)
     rw [hw] at bL
     refine gc bL ?_
     rintro _ _ ⟨rfl,A',dY,rfl⟩
     obtain ⟨ba,c',D',eo,rfl⟩:=dY
     refine gs ?_
     refine gz ?_
     exact fin ⟨rfl,_,⟨ba,c',D',eo,rfl⟩,rfl⟩ aa
    ·have xh:¬l[k].at_=x1.fin:=by simpa using xh
     refine gm ?_;intro iz
     have hw:=(by have:=hwL (fun q=>xh q.2);exact this)
     have xD:Rd [(iz,ax [.int .i64 x1.at_,.int .i64 (x1.many)] 143)] 2 (.slice (some ⟨iz,0,none⟩) 1 1) 1 [.int .i64 x1.at_,.int .i64 (x1.many)]:=av rfl (by simp [Value.oneCell']) oZ _
     have bL:=gZ p l mn _ c D hD xA (k - 1) (k) oZ _ _ _ [⟨x1.at_,x1.many⟩] 1 rfl xD (by have:=congrArg List.length hw;simp only [List.length_append,List.length_take,List.length_drop,List.length_cons,List.length_nil] at this;omega)
     rw [hw] at bL
     refine gc bL ?_
     rintro _ _ ⟨rfl,A',dY,rfl⟩
     obtain ⟨ba,c',D',eo,rfl⟩:=dY
     refine gs ?_
     refine gz ?_
     exact fin ⟨rfl,_,⟨ba,c',D',eo,rfl⟩,rfl⟩ aa
   ·have su:¬k<l.length:=by omega
    refine gm ?_;intro iz
    have hw:=(by have:=hwL (fun q=>su q.1);exact this)
    have xD:Rd [(iz,ax [.int .i64 x1.at_,.int .i64 (x1.many)] 143)] 2 (.slice (some ⟨iz,0,none⟩) 1 1) 1 [.int .i64 x1.at_,.int .i64 (x1.many)]:=av rfl (by simp [Value.oneCell']) oZ _
    have bL:=gZ p l mn _ c D hD xA (k - 1) (k) oZ _ _ _ [⟨x1.at_,x1.many⟩] 1 rfl xD (by have:=congrArg List.length hw;simp only [List.length_append,List.length_take,List.length_drop,List.length_cons,List.length_nil] at this;omega)
    rw [hw] at bL
    refine gc bL ?_
    rintro _ _ ⟨rfl,A',dY,rfl⟩
    obtain ⟨ba,c',D',eo,rfl⟩:=dY
    refine gs ?_
    refine gz ?_
    exact fin ⟨rfl,_,⟨ba,c',D',eo,rfl⟩,rfl⟩ aa
  ·have he:¬(l[k - 1]).fin=x.at_:=by simpa using he
   refine gd [0,4,8,12,16,20,24,28,32,36,40,44,48,52,56,60,64,69,72,76] ?_
   refine gg ?_ ?_ <;> intro su
   ·have su:k<l.length:=by omega
    have abB:=hG.at su
    have lX:=ar Sp.aj l k _ (List.getElem?_eq_getElem su)
    have Pb:=lX 0 _ rfl
    have Pc:=lX 1 _ rfl
    refine gc (iO x oZ) ?_
    rintro _ _ ⟨rfl,rfl⟩
    refine gi ?_ ?_ <;> intro xh
    ·have xh:l[k].at_=x.fin:=by simpa using xh
     have OB:IntKind.i64.wrap (x.many+l[k].many)=x.many+l[k].many:=IntWalk.i64_in _ oZ
     refine gm ?_;intro iz
     have hw:=wR hG.gd hm hk (fun ⟨_,q⟩=>he q) su xh
     have xD:Rd [(iz,ax [.int .i64 x.at_,.int .i64 (x.many+l[k].many)] 143)] 2 (.slice (some ⟨iz,0,none⟩) 1 1) 1 [.int .i64 x.at_,.int .i64 (x.many+l[k].many)]:=av rfl (by simp [Value.oneCell']) oZ _
     have bL:=gZ p l mn _ c D hD xA (k) (k+1) oZ _ _ _ [⟨x.at_,x.many+l[k].many⟩] 1 rfl xD (by have:=congrArg List.length hw;simp only [List.length_append,List.length_take,List.length_drop,List.length_cons,List.length_nil] at this;omega)
     rw [hw] at bL
     refine gc bL ?_
     rintro _ _ ⟨rfl,A',dY,rfl⟩
     obtain ⟨ba,c',D',eo,rfl⟩:=dY
     refine gs ?_
     refine gz ?_
     exact fin ⟨rfl,_,⟨ba,c',D',eo,rfl⟩,rfl⟩ aa
    ·have xh:¬l[k].at_=x.fin:=by simpa using xh
     refine gm ?_;intro iz
     have hw:=wN hG.gd hm hk (fun ⟨_,q⟩=>he q) xv (fun q=>xh q.2)
     have xD:Rd [(iz,ax [.int .i64 x.at_,.int .i64 (x.many)] 143)] 2 (.slice (some ⟨iz,0,none⟩) 1 1) 1 [.int .i64 x.at_,.int .i64 (x.many)]:=av rfl (by simp [Value.oneCell']) oZ _
     have bL:=gZ p l mn _ c D hD xA (k) (k) oZ _ _ _ [x] 1 rfl xD (by have:=congrArg List.length hw;simp only [List.length_append,List.length_take,List.length_drop,List.length_cons,List.length_nil] at this;omega)
     rw [hw] at bL
     refine gc bL ?_
     rintro _ _ ⟨rfl,A',dY,rfl⟩
     obtain ⟨ba,c',D',eo,rfl⟩:=dY
     refine gs ?_
     refine gz ?_
     exact fin ⟨rfl,_,⟨ba,c',D',eo,rfl⟩,rfl⟩ aa
   ·have su:¬k<l.length:=by omega
    refine gm ?_;intro iz
    have hw:=wN hG.gd hm hk (fun ⟨_,q⟩=>he q) xv (fun q=>su q.1)
    have xD:Rd [(iz,ax [.int .i64 x.at_,.int .i64 (x.many)] 143)] 2 (.slice (some ⟨iz,0,none⟩) 1 1) 1 [.int .i64 x.at_,.int .i64 (x.many)]:=av rfl (by simp [Value.oneCell']) oZ _
    have bL:=gZ p l mn _ c D hD xA (k) (k) oZ _ _ _ [x] 1 rfl xD (by have:=congrArg List.length hw;simp only [List.length_append,List.length_take,List.length_drop,List.length_cons,List.length_nil] at this;omega)
    rw [hw] at bL
    refine gc bL ?_
    rintro _ _ ⟨rfl,A',dY,rfl⟩
    obtain ⟨ba,c',D',eo,rfl⟩:=dY
    refine gs ?_
    refine gz ?_
    exact fin ⟨rfl,_,⟨ba,c',D',eo,rfl⟩,rfl⟩ aa
 ·have xZ:¬0<k:=by omega
  refine gd [0,4,8,12,16,20,24,28,32,36,40,44,48,52,56,60,64,69,72,76] ?_
  refine gg ?_ ?_ <;> intro su
  ·have su:k<l.length:=by omega
   have abB:=hG.at su
   obtain ⟨g,off,rfl⟩:=jw.addr oZ
   have lX:=ar Sp.aj l k _ (List.getElem?_eq_getElem su)
   have Pb:=lX 0 _ rfl
   have Pc:=lX 1 _ rfl
   refine gc (iO x oZ) ?_
   rintro _ _ ⟨rfl,rfl⟩
   refine gi ?_ ?_ <;> intro xh
   ·have xh:l[k].at_=x.fin:=by simpa using xh
    have OB:IntKind.i64.wrap (x.many+l[k].many)=x.many+l[k].many:=IntWalk.i64_in _ oZ
    refine gm ?_;intro iz
    have hw:=wR hG.gd hm hk (fun q=>xZ q.1) su xh
    have xD:Rd [(iz,ax [.int .i64 x.at_,.int .i64 (x.many+l[k].many)] 143)] 2 (.slice (some ⟨iz,0,none⟩) 1 1) 1 [.int .i64 x.at_,.int .i64 (x.many+l[k].many)]:=av rfl (by simp [Value.oneCell']) oZ _
    have bL:=gZ p l mn _ c D hD xA (k) (k+1) oZ _ _ _ [⟨x.at_,x.many+l[k].many⟩] 1 rfl xD (by have:=congrArg List.length hw;simp only [List.length_append,List.length_take,List.length_drop,List.length_cons,List.length_nil] at this;omega)
    rw [hw] at bL
    refine gc bL ?_
    rintro _ _ ⟨rfl,A',dY,rfl⟩
    obtain ⟨ba,c',D',eo,rfl⟩:=dY
    refine gs ?_
    refine gz ?_
    exact fin ⟨rfl,_,⟨ba,c',D',eo,rfl⟩,rfl⟩ aa
   ·have xh:¬l[k].at_=x.fin:=by simpa using xh
    refine gm ?_;intro iz
    have hw:=wN hG.gd hm hk (fun q=>xZ q.1) xv (fun q=>xh q.2)
    have xD:Rd [(iz,ax [.int .i64 x.at_,.int .i64 (x.many)] 143)] 2 (.slice (some ⟨iz,0,none⟩) 1 1) 1 [.int .i64 x.at_,.int .i64 (x.many)]:=av rfl (by simp [Value.oneCell']) oZ _
    have bL:=gZ p l mn _ c D hD xA (k) (k) oZ _ _ _ [x] 1 rfl xD (by have:=congrArg List.length hw;simp only [List.length_append,List.length_take,List.length_drop,List.length_cons,List.length_nil] at this;omega)
    rw [hw] at bL
    refine gc bL ?_
    rintro _ _ ⟨rfl,A',dY,rfl⟩
    obtain ⟨ba,c',D',eo,rfl⟩:=dY
    refine gs ?_
    refine gz ?_
    exact fin ⟨rfl,_,⟨ba,c',D',eo,rfl⟩,rfl⟩ aa
  ·have su:¬k<l.length:=by omega
   refine gm ?_;intro iz
   have hw:=wN hG.gd hm hk (fun q=>xZ q.1) xv (fun q=>su q.1)
   have xD:Rd [(iz,ax [.int .i64 x.at_,.int .i64 (x.many)] 143)] 2 (.slice (some ⟨iz,0,none⟩) 1 1) 1 [.int .i64 x.at_,.int .i64 (x.many)]:=av rfl (by simp [Value.oneCell']) oZ _
   have bL:=gZ p l mn _ c D hD xA (k) (k) oZ _ _ _ [x] 1 rfl xD (by have:=congrArg List.length hw;simp only [List.length_append,List.length_take,List.length_drop,List.length_cons,List.length_nil] at this;omega)
   rw [hw] at bL
   refine gc bL ?_
   rintro _ _ ⟨rfl,A',dY,rfl⟩
   obtain ⟨ba,c',D',eo,rfl⟩:=dY
   refine gs ?_
   refine gz ?_
   exact fin ⟨rfl,_,⟨ba,c',D',eo,rfl⟩,rfl⟩ aa
def DO (p:Nat)(s m:Int)(D:List Nat)(A:Chunk):Prop:=∃l,Fw s m D l/\Mv p l (cy l) A
def Fy (p:Nat)(s m:Int)(W:List Nat)(A:Chunk):Prop:=∃l,Mx s m W l/\Mv p l (cy l) A
theorem Ct.post {g:FuncId}{args:List Value}{As:List Chunk}{P Q:Value->List Chunk->Prop}(h:Ct g args As P)(k:∀u Bs,P u Bs->Q u Bs):Ct g args As Q:=h.imp k
section
variable (p:Nat)(s m:Int)(hm:8<=m)(hs:s<=10240)(k:Nat)(hk:(k+1:Int)*m<=s)(A:Chunk)
include hm hs hk
theorem DQ (D:List Nat)(hA:DO p s m D A)(hd:k∉D):Ct 96 [ptr p,(kP m k).agg] [A] fun u Bs=>u = .int .i64 0/\∃A',DO p s m (k :: D) A'/\Bs=[A']:=by
 obtain ⟨l,hl,hA⟩:=hA
 obtain ⟨h1,h2⟩:=hl.take hm hs hk hd
 obtain ⟨h3,h4⟩:=Ak h1
 refine (Pf p l _ A hA (hl.Mu hm hs) (kP m k) h3 h4 (tI hl.gd)).post fun u Bs => ?_
 rintro ⟨rfl,A',dY,rfl⟩
 rw [<-rJ hl.gd h1] at dY
 rw [<-tL h1] at dY
 exact ⟨rfl,A',⟨_,h2,dY⟩,rfl⟩
theorem Pg (D:List Nat)(hA:DO p s m D A)(hd:k∈D):Ct 141 [ptr p,(kP m k).agg] [A] fun u Bs=>u = .int .i64 0/\∃A',DO p s m (D.filter fun j=>j != k) A'/\Bs=[A']:=by
 obtain ⟨l,hl,hA⟩:=hA
 obtain ⟨h1,h2⟩:=hl.back hm hs hk hd
 obtain ⟨h3,h4,h5⟩:=Aj h1
 refine (GP p l _ A hA (hl.Mu hm hs) (kP m k) h3 h4 h5 (tI hl.gd)).post fun u Bs => ?_
 rintro ⟨rfl,A',dY,rfl⟩
 rw [<-rI hl.gd h1] at dY
 rw [<-tJ h1] at dY
 exact ⟨rfl,A',⟨_,h2,dY⟩,rfl⟩
theorem T7 (W:List Nat)(hA:Fy p s m W A)(hd:k∉W):Ct 141 [ptr p,(kP m k).agg] [A] fun u Bs=>u = .int .i64 0/\∃A',Fy p s m (W++[k]) A'/\Bs=[A']:=by
 obtain ⟨l,hl,hA⟩:=hA
 obtain ⟨h1,h2⟩:=hl.add hm hs hk hd
 obtain ⟨h3,h4,h5⟩:=Aj h1
 refine (GP p l _ A hA (hl.Mu hm hs) (kP m k) h3 h4 h5 (tI hl.gd)).post fun u Bs => ?_
 rintro ⟨rfl,A',dY,rfl⟩
 rw [<-rI hl.gd h1] at dY
 rw [<-tJ h1] at dY
 exact ⟨rfl,A',⟨_,h2,dY⟩,rfl⟩
theorem T8 (W:List Nat)(hA:Fy p s m W A)(hd:k∈W):Ct 96 [ptr p,(kP m k).agg] [A] fun u Bs=>u = .int .i64 0/\∃A',Fy p s m (W.filter fun j=>j != k) A'/\Bs=[A']:=by
 obtain ⟨l,hl,hA⟩:=hA
 obtain ⟨h1,h2⟩:=hl.rem hm hs hk hd
 obtain ⟨h3,h4⟩:=Ak h1
 refine (Pf p l _ A hA (hl.Mu hm hs) (kP m k) h3 h4 (tI hl.gd)).post fun u Bs => ?_
 rintro ⟨rfl,A',dY,rfl⟩
 rw [<-rJ hl.gd h1] at dY
 rw [<-tL h1] at dY
 exact ⟨rfl,A',⟨_,h2,dY⟩,rfl⟩
theorem KN (D:List Nat)(hA:DO p s m D A)(hd:k∈D):Ct 204 [ptr p,(kP m k).agg] [A] fun u Bs=>u = .bool false/\Bs=[A]:=by
 obtain ⟨l,hl,hA⟩:=hA
 have h0:=jA hm hs hk
 have:=vX p l _ A hA (hl.Mu hm hs) (kP m k) (by have:=Sp.aw.1 h0.1;omega)
 rwa [hl.meets hm hs hk hd] at this
theorem KP (W:List Nat)(hA:Fy p s m W A)(hd:k∉W):Ct 204 [ptr p,(kP m k).agg] [A] fun u Bs=>u = .bool false/\Bs=[A]:=by
 obtain ⟨l,hl,hA⟩:=hA
 have h0:=jA hm hs hk
 have:=vX p l _ A hA (hl.Mu hm hs) (kP m k) (by have:=Sp.aw.1 h0.1;omega)
 rwa [hl.meets hm hs hk hd] at this
end
theorem Ph (p:Nat)(s m:Int)(hm:8<=m/\m<=1000)(hs:s<=10240)(A:Chunk)(D:List Nat)(hA:DO p s m D A)(hd:∃k:Nat,k∉D/\(k+1:Int)*m<=s) :
  Ct 289 [ptr p,.int .i64 m,.int .i64 0] [A] fun u Bs=>∃k:Nat,k∉D/\(k+1:Int)*m<=s/\u = .tuple #[.int .i64 (k*m),.bool true]/\Bs=[A]:=by
 obtain ⟨l,hl,hA⟩:=hA
 obtain ⟨j,hj,hjs⟩:=hd
 refine (T0 p l _ m 0 A hA (hl.Mu hm.1 hs) oZ oZ).post fun u Bs => ?_
 rintro ⟨rfl,rfl⟩
 have hf:=hl.found hm.1 hs hjs hj
 obtain ⟨k,h1,h2,h3⟩:=hl.find hm.1 hs (a:=(gH l m 0).1) (by rw [<-hf])
 exact ⟨k,h3,h2,by rw [hf,h1],rfl⟩
theorem DR (s:Int)(hs:1<=s/\s<=10240):Ct 93 [.int .i64 s] [] fun u Bs=>∃p A,u=ptr p/\Mv p (fW s) (cy (fW s)) A/\Bs=[A]:=by
 have hp:(0:Int)<s:=by omega
 refine st Tryz.func93 fun w0 => ?_
 refine gc O9 ?_
 rintro _ _ ⟨p,A,rfl,hA,rfl⟩
 have h1:bM [] (⟨0,s⟩:Sp) false=fW s:=by simp [bM,fW,hp]
 have h2:cy (fW s)=0+s:=by simp [fW,hp,cy]
 have GL:=GP p [] 0 A hA T5 ⟨0,s⟩ (by rw [Sp.aw];simp only;omega) (by simp [eb,kO]) (by rw [h1];simp [fW,hp]) oZ
 rw [h1,<-h2] at GL
 refine gc GL ?_
 rintro _ _ ⟨rfl,A',dY,rfl⟩
 refine gz ?_
 exact fin ⟨p,A',rfl,dY,rfl⟩ aa
theorem KQ (s m:Int)(hs:1<=s/\s<=10240):Ct 93 [.int .i64 s] [] fun u Bs=>∃p A,u=ptr p/\DO p s m [] A/\Bs=[A] :=
 (DR s hs).post fun u Bs=>by
  rintro ⟨p,A,rfl,hA,rfl⟩
  exact ⟨p,A,rfl,⟨_,KK hs.2,hA⟩,rfl⟩
theorem T9 (s m:Int):Ct 94 [] [] fun u Bs=>∃p A,u=ptr p/\Fy p s m [] A/\Bs=[A] :=
 O9.post fun u Bs=>by
  rintro ⟨p,A,rfl,hA,rfl⟩
  exact ⟨p,A,rfl,⟨_,KL,hA⟩,rfl⟩
theorem Zh (v:Value)(O:Chunk)(x:Int)(hO:Rd O 1 v 1 [.int .i64 x]):Ct 283 [v] [O] fun u Bs=>u = .int .i64 x/\Bs=[O]:=by
 obtain ⟨ad,c,rfl⟩:=hO.slice
 obtain ⟨g,o,rfl⟩:=hO.addr oZ
 refine st Tryz.func283 fun w0 => ?_
 refine gl [0] (fun (_:Nat)=>[(3,.int .i64 x),(4,.int .i64 1)]) (fun _=>[]) (fun _=>True) (fun _=>0) 0 True.intro ?_
 rintro n -
 refine gz ?_
 exact fin ⟨rfl,rfl⟩ aa
theorem Zi (v:Value)(O:Chunk)(x:Int)(hO:Rd O 1 v 1 [.int .i64 x]):Ct 284 [v] [O] fun u Bs=>u = .int .i64 x/\Bs=[O]:=by
 obtain ⟨ad,c,rfl⟩:=hO.slice
 obtain ⟨g,o,rfl⟩:=hO.addr oZ
 refine st Tryz.func284 fun w0 => ?_
 refine gl [0] (fun (_:Nat)=>[(3,.int .i64 x),(4,.int .i64 1)]) (fun _=>[]) (fun _=>True) (fun _=>0) 0 True.intro ?_
 rintro n -
 refine gz ?_
 exact fin ⟨rfl,rfl⟩ aa
end Go.Proofs.YteldablklnfblaaGreatDoor
namespace Go.Sl
def KR (m:Int)(ks:List Nat):List Pl:=ks.map fun k=>⟨0,kP m k⟩
theorem Pj {m:Int}{ks:List Nat}{i k:Nat}(h:ks[i]? = some k):(KR m ks)[i]? = some ⟨0,kP m k⟩:=by simp [KR,h]
end Go.Sl
namespace Go.Proofs.YteldablklnfblaaGreatDoor
open Go.Sl
set_option maxRecDepth 10000
set_option maxHeartbeats 4000000
theorem Pk (vO vF:Value)(O:Chunk):Ct 296 [vO,.int .i64 0,.int .i64 1,vF] [O] fun _ Bs=>Bs=[O]:=by
 refine st Tryz.func296 fun w0 => ?_
 refine gl [0,1,2,3] (fun (_:Nat)=>[(8,.int .i64 1)]) (fun _=>[]) (fun _=>True) (fun _=>0) 0 True.intro ?_
 rintro n -
 refine gz ?_
 exact fin rfl aa
theorem Ua (vO vF:Value)(O:Chunk):Ct 294 [vO,.int .i64 1,vF] [O] fun _ Bs=>Bs=[O]:=by
 have h0:=Pk vO vF O
 refine st Tryz.func294 fun w0 => ?_
 refine gl [0,1,2] (fun (_:Nat)=>[(6,.int .i64 20),(7,.int .i64 0),(8,.int .i64 20)]) (fun _=>[]) (fun _=>True) (fun _=>0) 0 True.intro ?_
 rintro n -
 refine gc h0 ?_
 rintro _ _ rfl
 refine gl [0,1,2] (fun (_:Nat)=>[(6,.int .i64 20)]) (fun _=>[]) (fun _=>True) (fun _=>0) 0 True.intro ?_
 rintro n2 -
 refine gz ?_
 exact fin rfl aa
theorem Pm (ad:Option Addr)(c:Nat)(vF:Value)(O:Chunk):Ct 285 [.slice ad 1 c,vF] [O] fun _ Bs=>Bs=[O]:=by
 have h0:=Ua (.slice ad 1 c) vF O
 refine st Tryz.func285 fun w0 => ?_
 refine gc h0 ?_
 rintro _ _ rfl
 refine gz ?_
 exact fin rfl aa
theorem Pn (ad:Option Addr)(c:Nat)(O:Chunk)(s:Int)(hs:0<=s/\s<=40960)(hO:Rd O 1 (.slice ad 1 c) 1 [.int .i64 s]):Ct 91 [.slice ad 1 c,.func (.func 90) #[] #[]] [O] fun u Bs=>u = .bool false/\Bs=[O]:=by
 obtain ⟨g,o,rfl⟩:=hO.addr oZ
 refine st Tryz.func91 fun w0 => ?_
 refine ge ?_
 refine gl [0,1,6,7] (fun (i:Nat)=>[(8,.int .i64 i)]) (fun _=>[]) (fun i=>i<=1) (fun i=>1 - i) 0 oZ ?_
 rintro i hi
 refine gi ?_ ?_ <;> intro bo
 ·obtain rfl:i=0:=by omega
  refine ge ?_
  refine gn ?_
  exact ⟨1,by omega,by omega,aq,_,aa⟩
 ·refine gz ?_
  exact fin ⟨rfl,rfl⟩ aa
theorem GQ (D:Chunk)(ad:Option Addr)(m c:Nat)(xs:List Value)(hR:Rd D 1 (.slice ad m c) m xs)(hm:1<=m/\m<=1000):Ct 92 [.slice ad m c] [D] fun u Bs=>∃ba c' D',u = .slice ba m c'/\az D' 3 1 (.slice ba m c') m xs/\Bs=[D',D]:=by
 obtain ⟨g,o,rfl⟩:=hR.addr oZ
 refine st Tryz.func92 fun w0 => ?_
 refine gm ?_;intro b
 have hB:az [(b,ax [] 3)] 3 1 (.slice (some ⟨b,0,none⟩) 0 0) 0 []:=⟨rfl,by simp,.inr ⟨b,0,[],rfl,rfl,by omega,by simp [maxLen],rfl⟩⟩
 refine gp ?_;intro ba c' C' bA
 rw [Nat.zero_add,List.nil_append] at bA
 refine gz ?_
 exact fin ⟨ba,c',C',by rw [Nat.zero_add],bA,rfl⟩ aa
abbrev R9 (vS vF vW vM:Value):Obj:=ax [vS,vF,vW,vM] 185
def Fz (m:Int):List (Int×Value)->List (Int×List Nat)->Chunk->Prop
 | [],[],V=>V=[]
 | (q,v) :: L,(g,ks) :: M,V=>q=g/\∃D V',az D 145 3 v ks.length ((KR m ks).flatMap Pl.lay)/\Fz m L M V'/\V=D++V'
 | _,_,_=>False
def pd (p:Nat)(s m:Int)(a:Rm)(A:Chunk):Prop:=∃bI cS DS Bu cF DF Bv cW DW pf pw r L CF CW CM V,
 az DS 3 1 (.slice bI 1 cS) 1 [.int .i64 s]/\az DF 186 1 (.slice Bu 1 cF) 1 [ptr pf]/\az DW 186 1 (.slice Bv 1 cW) 1 [ptr pw] /\
 DO pf s m a.D CF/\Fy pw s m a.W CW/\Mp r .u64 L CM/\Fz m L a.fI V /\
 A=[(p,R9 (.slice bI 1 cS) (.slice Bu 1 cF) (.slice Bv 1 cW) (.map (some r)))]++(DS++(DF++(DW++(CF++(CW++(CM++V))))))
section
variable (p:Nat)(s m:Int)(hm:8<=m/\m<=1000)(hs:1<=s/\s<=10240)(k:Nat)(hk:(k+1:Int)*m<=s)(D W:List Nat)
variable (bI:Option Addr)(cS:Nat)(DS:Chunk)(Bu:Option Addr)(cF:Nat)(DF:Chunk)(Bv:Option Addr)(cW:Nat)(DW:Chunk)(pf pw r:Nat)(CF CW:Chunk)
variable (hS:az DS 3 1 (.slice bI 1 cS) 1 [.int .i64 s])(hF:az DF 186 1 (.slice Bu 1 cF) 1 [ptr pf])(hW:az DW 186 1 (.slice Bv 1 cW) 1 [ptr pw])(qS:DO pf s m D CF)(wb:Fy pw s m W CW)
theorem Po (vS vF vW vM:Value)(bI:Option Addr)(cS:Nat):Ct 95 [ptr p,.int .i64 0] [[(p,R9 (.slice bI 1 cS) vF vW vM)]] fun u Bs=>u = .bool true/\Bs=[[(p,R9 (.slice bI 1 cS) vF vW vM)]]:=by
 refine st Tryz.func95 fun w0 => ?_
 refine gz ?_
 exact fin ⟨rfl,rfl⟩ aa
include hm hs hk hS hF hW qS wb in
theorem Uc (hD:k∈D)(hW':k∉W):Ct 268 [ptr p,.agg #[.int .i64 0,.int .i64 (k*m),.int .i64 m]] [[(p,R9 (.slice bI 1 cS) (.slice Bu 1 cF) (.slice Bv 1 cW) (.map (some r)))],DS,DF,DW,CF,CW]
  fun u Bs=>u = .bool true/\Bs=[[(p,R9 (.slice bI 1 cS) (.slice Bu 1 cF) (.slice Bv 1 cW) (.map (some r)))],DS,DF,DW,CF,CW]:=by
 have hSr:=hS.rd
 have Pp:=hF.rd
 have hWr:=hW.rd
 obtain ⟨gS,oS,rfl⟩:=hSr.addr oZ
 obtain ⟨gF,oF,rfl⟩:=Pp.addr oZ
 obtain ⟨gW,oW,rfl⟩:=hWr.addr oZ
 have h1:=Po p (.slice none 0 0) (.slice (some ⟨gF,oF,none⟩) 1 cF) (.slice (some ⟨gW,oW,none⟩) 1 cW) (.map (some r)) (some ⟨gS,oS,none⟩) cS
 have h3:=KN pf s m hm.1 hs.2 k hk CF D qS hD
 have h4:=KP pw s m hm.1 hs.2 k hk CW W wb hW'
 refine st Tryz.func268 fun w0 => ?_
 refine ga ?_;intro b3
 refine gd [0,4,8,13,16,20,24,28,32,36,40,44,48,52,56,60,64,68,72,76,84,88,81,95,98,102] ?_
 refine gc h1 ?_
 rintro _ _ ⟨rfl,rfl⟩
 refine gc (DR s hs) ?_
 rintro _ _ ⟨q,A,rfl,hA,rfl⟩
 have hx:=jA hm.1 hs.2 hk
 have h2:=Pa q _ _ A hA (KJ oZ) (kP m k) (by have:=Sp.aw.1 hx.1;omega)
 rw [KM hm.1 hs.2 hk] at h2
 refine gc h2 ?_
 rintro _ _ ⟨rfl,rfl⟩
 refine gd [0,4,8,12,16,20,24,28,32,36,41,44,48,52,56,60,64,68,72,76,80,84,88,95,98,102,106] ?_
 refine gc h3 ?_
 rintro _ _ ⟨rfl,rfl⟩
 refine gc h4 ?_
 rintro _ _ ⟨rfl,rfl⟩
 refine gz ?_
 exact fin ⟨rfl,rfl⟩ aa
end
end Go.Proofs.YteldablklnfblaaGreatDoor
namespace Go.Sl
theorem p7:∀(N:Nat) (l:List Nat),l.Nodup->(∀k∈l,k<N)->l.length<=N
 | 0,l,_,h=>by
  cases l with
  | nil=>simp
  | cons x r=>exact absurd (h x (List.mem_cons_self ..)) oZ
 | N+1,l,hn,h=>by
  have h1:=p7 N (l.erase N) (hn.erase N) fun k hk=>by
   have h2:=(hn.mem_erase_iff).1 hk
   have:=h k h2.2
   omega
  have h3:l.length<=(l.erase N).length+1:=by
   by_cases c:N∈l
   ·rw [List.length_erase_of_mem c];omega
   ·rw [List.erase_of_not_mem c];omega
  omega
theorem Rm.Ok.lt {s m:Int}{a:Rm}(h:a.Ok s m)(hm:8<=m)(hs:s<=10240){k:Nat}(hk:k∈a.D):k<1280:=by
 have:=h.dl k hk
 have h2:=Int.mul_le_mul_of_nonneg_left hm (show (0:Int)<=k+1 by omega)
 omega
theorem Rm.Ok.abC {s m:Int}{a:Rm}(h:a.Ok s m)(hm:8<=m)(hs:s<=10240){g:Int×List Nat}(hg:g∈a.fI):g.2.length<=1280:=by
 obtain ⟨X,Y,hXY⟩:=List.append_of_mem hg
 have hn:=h.wn
 have iY:g.2.Sublist a.W:=by
  unfold Rm.W;rw [hXY,List.flatMap_append,List.flatMap_cons]
  exact (List.sublist_append_left _ _).trans (List.sublist_append_right _ _)
 exact p7 1280 g.2 (iY.nodup hn) fun k hk=>h.lt hm hs (h.wd k (iY.subset hk))
theorem Aq:∀(l:List (Int×List Nat)) (g:Int) (k:Nat),((l4 l g k).flatMap (·.2)).Perm (l.flatMap (·.2)++[k])
 | [],g,k=>by simp [l4]
 | (j,l) :: r,g,k=>by
  unfold l4
  split
  ·simp only [List.flatMap_cons,List.append_assoc]
   exact List.Perm.append_left l (List.perm_append_comm)
  ·simp only [List.flatMap_cons,List.append_assoc]
   exact List.Perm.append_left l (Aq r g k)
theorem Rm.Ud {s m:Int}{a:Rm}(h:a.Ok s m)(g:Int){k:Nat}(hD:k∈a.D)(hW:k∉a.W):(a.free g k).Ok s m:=by
 have hp:=Aq a.fI g k
 refine ⟨h.dl, ?_,fun j hj => ?_⟩
 ·refine hp.nodup_iff.2 ?_
  rw [List.nodup_append]
  exact ⟨h.wn,by simp,fun x hx y hy=>by rw [List.mem_singleton.1 hy];rintro rfl;exact hW hx⟩
 ·rcases List.mem_append.1 (hp.mem_iff.1 hj) with q | q
  ·exact h.wd j q
  ·rw [List.mem_singleton.1 q];exact hD
end Go.Sl
namespace Go.Proofs.YteldablklnfblaaGreatDoor
open Go.Sl
set_option maxRecDepth 10000
set_option maxHeartbeats 4000000
theorem DO.congr {p:Nat}{s m:Int}{D D':List Nat}{A:Chunk}(h:DO p s m D A)(hd:∀k,k∈D↔k∈D'):DO p s m D' A:=by
 obtain ⟨l,h1,h2⟩:=h
 exact ⟨l,h1.congr fun n=>by simp only [Ze,hd],h2⟩
theorem Fy.congr {p:Nat}{s m:Int}{W W':List Nat}{A:Chunk}(h:Fy p s m W A)(hd:∀k,k∈W↔k∈W'):Fy p s m W' A:=by
 obtain ⟨l,h1,h2⟩:=h
 exact ⟨l,h1.congr fun n=>by simp only [Zf,hd],h2⟩
abbrev Pq (D:Chunk)(v:Value)(m:Int)(ks:List Nat):Prop:=az D 145 3 v ks.length ((KR m ks).flatMap Pl.lay)
theorem Fz.split {m:Int}(g:Int)(k:Nat):∀ {L:List (Int×Value)} {M:List (Int×List Nat)} {V:Chunk},Fz m L M V ->
  (jU L g=none/\∀v D,Pq D v m [k]->Fz m (gM L g v) (l4 M g k) (V++D)) \/
  ∃v V1 D V2 ks,jU L g=some v/\(g,ks)∈M/\V=V1++(D++V2)/\Pq D v m ks/\∀v' D',Pq D' v' m (ks++[k])->Fz m (gM L g v') (l4 M g k) (V1++(D'++V2))
 | [],[],V,h=>.inl ⟨rfl,fun v D hD=>by obtain rfl:V=[]:=h;exact ⟨rfl,D,[],hD,rfl,by simp⟩⟩
 | [],_ :: _,V,h=>h.elim
 | _ :: _,[],V,h=>h.elim
 | (q,v) :: L,(j,ks) :: M,V,h=>by
  obtain ⟨rfl,D,V',hD,hV,rfl⟩:=h
  by_cases c:q=g
  ·subst c
   refine .inr ⟨v,[],D,V',ks,by simp [jU],List.mem_cons_self ..,rfl,hD,fun v' D' eo => ?_⟩
   simp only [gM,l4,if_pos]
   exact ⟨rfl,D',V',eo,hV,rfl⟩
  ·rcases Fz.split g k hV with ⟨h1,h2⟩ | ⟨u,V1,E,V2,ls,h1,h0,rfl,h3,h4⟩
   ·refine .inl ⟨by simpa [jU,c] using h1,fun v' D' eo => ?_⟩
    simp only [gM,l4,if_neg c]
    exact ⟨rfl,D,V'++D',hD,h2 v' D' eo,by rw [List.append_assoc]⟩
   ·refine .inr ⟨u,D++V1,E,V2,ls,by simpa [jU,c] using h1,List.mem_cons_of_mem _ h0,by rw [List.append_assoc],h3,fun v' D' eo => ?_⟩
    simp only [gM,l4,if_neg c]
    exact ⟨rfl,D,_,hD,h4 v' D' eo,by rw [List.append_assoc]⟩
theorem Fz.keys {m:Int}:∀ {L:List (Int×Value)} {M:List (Int×List Nat)} {V:Chunk},Fz m L M V->M.map (·.1)=L.map (·.1)
 | [],[],_,_=>rfl
 | [],_ :: _,_,h=>h.elim
 | _ :: _,[],_,h=>h.elim
 | (q,v) :: L,(j,ks) :: M,V,h=>by
  obtain ⟨rfl,D,V',hD,hV,rfl⟩:=h
  simp only [List.map_cons,hV.keys]
theorem Fz.cut {m:Int}{q:Int}{v:Value}:∀ {L:List (Int×Value)} {M:List (Int×List Nat)} {V:Chunk},Fz m L M V->(L.map (·.1)).Nodup->jU L q=some v ->
  ∃ks V1 D V2,(q,ks)∈M/\V=V1++(D++V2)/\Pq D v m ks/\Fz m (iu L q) (M.filter fun g=>g.1 != q) (V1++V2)
 | [],_,V,_,_,hl=>by simp [jU] at hl
 | _ :: _,[],V,h,_,_=>h.elim
 | (p,u) :: L,(j,ks) :: M,V,h,hn,hl=>by
  obtain ⟨rfl,D,V',hD,hV,rfl⟩:=h
  rw [List.map_cons,List.nodup_cons] at hn
  by_cases c:p=q
  ·subst c
   have e:u=v:=by simpa [jU] using hl
   subst e
   refine ⟨ks,[],D,V',List.mem_cons_self ..,rfl,hD, ?_⟩
   have h1:iu ((p,u) :: L) p=L:=by
    simp only [iu,List.filter_cons,bne_self_eq_false,Bool.false_eq_true,if_false]
    rw [List.filter_eq_self];intro e he;simpa using fun h':e.1=p=>hn.1 (by rw [<-h'];exact List.mem_map_of_mem (f:=(·.1)) he)
   have h2:((p,ks) :: M).filter (fun g=>g.1 != p)=M:=by
    simp only [List.filter_cons,bne_self_eq_false,Bool.false_eq_true,if_false]
    rw [List.filter_eq_self];intro e he;simpa using fun h':e.1=p=>hn.1 (by rw [<-hV.keys,<-h'];exact List.mem_map_of_mem (f:=(·.1)) he)
   rw [h1,h2];exact hV
  ·obtain ⟨ls,V1,E,V2,h1,rfl,h3,h4⟩:=Fz.cut hV hn.2 (by simpa [jU,c] using hl)
   refine ⟨ls,D++V1,E,V2,List.mem_cons_of_mem _ h1,by rw [List.append_assoc],h3, ?_⟩
   have e1:iu ((p,u) :: L) q=(p,u) :: iu L q:=by simp [iu,c]
   have e2:((p,ks) :: M).filter (fun g=>g.1 != q)=(p,ks) :: M.filter (fun g=>g.1 != q):=by simp [c]
   rw [e1,e2]
   exact ⟨rfl,D,_,hD,h4,by rw [List.append_assoc]⟩
section
variable (p:Nat)(s m:Int)(hm:8<=m/\m<=1000)(hs:1<=s/\s<=10240)(a:Rm)(ha:a.Ok s m)(A:Chunk)(hA:pd p s m a A)
include hm hs ha hA
theorem Ue (g k:Nat)(hD:k∈a.D)(hW:k∉a.W):Ct 221 [ptr p,.agg #[.int .i64 0,.int .i64 (k*m),.int .i64 m],.int .u64 g] [A] fun u Bs=>u = .int .i64 0/\∃A',pd p s m (a.free g k) A'/\Bs=[A']:=by
 obtain ⟨bI,cS,DS,Bu,cF,DF,Bv,cW,DW,pf,pw,r,L,CF,CW,CM,V,hS,hF,WT,qS,wb,hM,hG,rfl⟩:=hA
 have hk:=ha.dl k hD
 have WU:=Uc p s m hm hs k hk a.D a.W bI cS DS Bu cF DF Bv cW DW pf pw r CF CW hS hF WT qS wb hD hW
 have GL:=T7 pw s m hm.1 hs.2 k hk CW a.W wb hW
 have hWr:=WT.rd
 obtain ⟨gW,oW,rfl⟩:=hWr.addr oZ
 have pE:∀ {L' CM' V' CW'},Mp r .u64 L' CM'->Fz m L' (l4 a.fI g k) V'->Fy pw s m (a.W++[k]) CW'->pd p s m (a.free g k) ([(p,R9 (.slice bI 1 cS) (.slice Bu 1 cF) (.slice (some ⟨gW,oW,none⟩) 1 cW) (.map (some r)))]++(DS++(DF++(DW++(CF++(CW'++(CM'++V'))))))) :=
  fun h1 h2 h3=>⟨bI,cS,DS,Bu,cF,DF,_,cW,DW,pf,pw,r,_,CF,_,_,_,hS,hF,WT,qS,h3.congr fun j=>(Aq a.fI g k).mem_iff.symm,h1,h2,rfl⟩
 have hB1:∀b0,Rd [(b0,ax (Pl.lay ⟨0,kP m k⟩) 145)] 3 (.slice (some ⟨b0,0,none⟩) 1 1) 1 (Pl.lay ⟨0,kP m k⟩):=fun b0=>av rfl (by simp [Pl.lay,Value.oneCell']) oZ _
 rcases hG.split g k with ⟨hl,Pr⟩ | ⟨v,V1,D,V2,ks,hl,jG,rfl,Bq,Pr⟩
 ·refine st Tryz.func221 fun w0 => ?_
  refine gs ?_
  refine ga ?_;intro b4
  refine gc WU ?_
  rintro _ _ ⟨rfl,rfl⟩
  refine gc GL ?_
  rintro _ _ ⟨rfl,CW',Ps,rfl⟩
  refine gd [0,4,8,12,16,20,24,28,32,36,40,44,49,53,59] ?_
  refine gm ?_;intro b0
  refine gp ?_;intro ad c C hC
  refine gu ?_;intro C' bA
  refine gz ?_
  exact fin ⟨rfl,_,pE bA (Pr _ C hC) Ps,rfl⟩ aa
 ·have lY:ks.length<=1280:=ha.abC hm.1 hs.2 jG
  clear jG
  obtain ⟨RY,c0,rfl⟩:=Bq.slice
  refine st Tryz.func221 fun w0 => ?_
  refine gs ?_
  refine ga ?_;intro b4
  refine gc WU ?_
  rintro _ _ ⟨rfl,rfl⟩
  refine gc GL ?_
  rintro _ _ ⟨rfl,CW',Ps,rfl⟩
  refine qM [[(p,R9 (.slice bI 1 cS) (.slice Bu 1 cF) (.slice (some ⟨gW,oW,none⟩) 1 cW) (.map (some r)))],[(b4,ax [.int .i64 0,.int .i64 (k*m),.int .i64 m] 145)],CM] [0,4,8,12,16,20,24,28,32,36,40,44,49,53,59] ?_
  refine gm ?_;intro b0
  refine gp ?_;intro ad c C hC
  refine gu ?_;intro C' bA
  refine gz ?_
  exact fin ⟨rfl,_,pE bA (Pr _ C (by simpa [Pq,KR,Pl.lay,kP] using hC)) Ps,rfl⟩ aa
end
end Go.Proofs.YteldablklnfblaaGreatDoor
namespace Go.Sl
def kQ (t:Int)(rest:List Int)(g:Int×List Nat):Bool:=!jJ t g.1||rest.contains g.1
def FA (t:Int)(rest:List Int)(a:Rm):List (Int×List Nat):=a.fI.filter (kQ t rest)
def iA (t:Int)(rest:List Int)(a:Rm):List Nat:=(a.fI.filter fun g => !kQ t rest g).flatMap (·.2)
theorem yf.nodup {r it:Nat}{k:IntKind}{L rest:List (Int×Value)}{C D:Chunk}(h:yf r it k L rest C D):(rest.map (·.1)).Nodup/\∀q∈rest.map (·.1),q∈L.map (·.1):=by
 obtain ⟨Ms,clock,since,seen,last,rfl,nI, -, -, -, -, -,rfl⟩:=h
 rw [List.map_map,List.map_map]
 refine ⟨(List.filter_sublist.map _).nodup nI.nk,fun q hq => ?_⟩
 obtain ⟨z,hz,rfl⟩:=List.mem_map.1 hq
 exact List.mem_map_of_mem (List.mem_filter.1 hz).1
theorem wc {L:List (Int×Value)}{q:Int}(h:q∉L.map (·.1)):iu L q=L:=by
 unfold iu
 rw [List.filter_eq_self]
 intro e he;simpa using fun h':e.1=q=>h (by rw [<-h'];exact List.mem_map_of_mem (f:=(·.1)) he)
section
variable {t:Int}{a:Rm}{X Y:List Int}{q:Int}
theorem IT (h:jJ t q=false)(g:Int×List Nat):kQ t (X++q :: Y) g=kQ t (X++Y) g:=by
 unfold kQ
 by_cases c:g.1=q
 ·rw [c,h];rfl
 ·congr 1
  simp [c]
theorem Zj (h:jJ t q=false):FA t (X++q :: Y) a=FA t (X++Y) a:=List.filter_congr fun g _=>IT h g
theorem Pu (h:jJ t q=false):iA t (X++q :: Y) a=iA t (X++Y) a:=by
 unfold iA
 rw [show (fun g => !kQ t (X++q :: Y) g)=fun g => !kQ t (X++Y) g from funext fun g=>by rw [IT h g]]
theorem IU (h:jJ t q=true)(hn:q∉X++Y):(FA t (X++q :: Y) a).filter (fun g=>g.1 != q)=FA t (X++Y) a:=by
 unfold FA
 rw [List.filter_filter]
 refine List.filter_congr fun g _ => ?_
 unfold kQ
 by_cases c:g.1=q
 ·rw [c,h]
  have:(X++Y).contains q=false:=by simpa using hn
  rw [this];simp
 ·have e1:(g.1 != q)=true:=by simp [c]
  rw [e1,Bool.true_and]
  congr 1
  simp [c]
theorem we {k:Nat}:k∈iA t X a↔∃g∈a.fI,jJ t g.1=true/\g.1∉X/\k∈g.2:=by
 simp only [iA,List.mem_flatMap,List.mem_filter,kQ,Bool.not_or,Bool.not_not,Bool.and_eq_true,Bool.not_eq_true',List.contains_eq_mem,decide_eq_false_iff_not]
 constructor
 ·rintro ⟨g,⟨h1,h2,h3⟩,h4⟩;exact ⟨g,h1,h2,h3,h4⟩
 ·rintro ⟨g,h1,h2,h3,h4⟩;exact ⟨g,⟨h1,h2,h3⟩,h4⟩
theorem Ar {k:Nat}{ks:List Nat}(h:jJ t q=true)(hn:q∉X++Y)(hq:(q,ks)∈a.fI)(hu:∀g∈a.fI,g.1=q->g=(q,ks)):k∈iA t (X++Y) a↔k∈iA t (X++q :: Y) a\/k∈ks:=by
 rw [we,we]
 constructor
 ·rintro ⟨g,h1,h2,h3,h4⟩
  by_cases c:g.1=q
  ·rw [hu g h1 c] at h4;exact .inr h4
  ·exact .inl ⟨g,h1,h2,by simp only [List.mem_append,List.mem_cons,not_or] at h3 ⊢;exact ⟨h3.1,c,h3.2⟩,h4⟩
 ·rintro (⟨g,h1,h2,h3,h4⟩ | h4)
  ·exact ⟨g,h1,h2,by simp only [List.mem_append,List.mem_cons,not_or] at h3 ⊢;exact ⟨h3.1,h3.2.2⟩,h4⟩
  ·exact ⟨(q,ks),hq,h,hn,h4⟩
end
theorem Rm.Ok.one {s m:Int}{a:Rm}(h:a.Ok s m){g j:Int×List Nat}{k:Nat}(hg:g∈a.fI)(hj:j∈a.fI)(h1:k∈g.2)(h2:k∈j.2):g=j:=by
 obtain ⟨X,Y,e⟩:=List.append_of_mem hg
 have hn:=h.wn
 unfold Rm.W at hn
 rw [e,List.flatMap_append,List.flatMap_cons,List.nodup_append] at hn
 obtain ⟨-,dE,hn3⟩:=hn
 rw [List.nodup_append] at dE
 obtain ⟨-, -,hn4⟩:=dE
 rw [e] at hj
 rcases List.mem_append.1 hj with hj | hj
 ·exact absurd rfl (hn3 k (List.mem_flatMap.2 ⟨j,hj,h2⟩) k (List.mem_append_left _ h1))
 ·rcases List.mem_cons.1 hj with rfl | hj
  ·rfl
  ·exact absurd rfl (hn4 k h1 k (List.mem_flatMap.2 ⟨j,hj,h2⟩))
theorem Rm.Ok.nodup {s m:Int}{a:Rm}(h:a.Ok s m){g:Int×List Nat}(hg:g∈a.fI):g.2.Nodup:=by
 obtain ⟨X,Y,hXY⟩:=List.append_of_mem hg
 have iY:g.2.Sublist a.W:=by
  unfold Rm.W;rw [hXY,List.flatMap_append,List.flatMap_cons]
  exact (List.sublist_append_left _ _).trans (List.sublist_append_right _ _)
 exact iY.nodup h.wn
end Go.Sl
namespace Go.Proofs.YteldablklnfblaaGreatDoor
open Go.Sl
set_option maxRecDepth 10000
set_option maxHeartbeats 4000000
theorem Uf (p:Nat)(s m:Int)(hm:8<=m/\m<=1000)(hs:1<=s/\s<=10240)(a:Rm)(ha:a.Ok s m)(A:Chunk)(hA:pd p s m a A)(t:Nat)(ht:t<18446744073709551616) :
  Ct 222 [ptr p,.int .u64 t] [A] fun _ Bs=>∃A',pd p s m (a.sync t) A'/\Bs=[A']:=by
 obtain ⟨bI,cS,DS,Bu,cF,DF,Bv,cW,DW,pf,pw,r,L0,CF,CW,CM,V,hS,hF,WT,qS,wb,hM,hG,rfl⟩:=hA
 have Pp:=hF.rd
 have hWr:=WT.rd
 obtain ⟨gF,oF,rfl⟩:=Pp.addr oZ
 obtain ⟨gW,oW,rfl⟩:=hWr.addr oZ
 have mM:=hG.keys
 have ek:=hM.nodup
 have abD:∀g∈a.fI,∀q ks,(q,ks)∈a.fI->g.1=q->g=(q,ks):=fun g hg q ks hq e=>by
  rw [<-mM] at ek
  obtain ⟨X,Y,hXY⟩:=List.append_of_mem hq
  rw [hXY,List.map_append,List.map_cons,List.nodup_append,List.nodup_cons] at ek
  obtain ⟨-,⟨n2, -⟩,n3⟩:=ek
  rw [hXY] at hg
  rcases List.mem_append.1 hg with hg | hg
  ·exact absurd e (n3 _ (List.mem_map_of_mem hg) _ (List.mem_cons_self ..))
  ·rcases List.mem_cons.1 hg with rfl | hg
   ·rfl
   ·exact absurd (by rw [<-e];exact List.mem_map_of_mem (f:=(·.1)) hg) n2
 refine st Tryz.func222 fun w0 => ?_
 refine gs ?_
 refine gr ?_
 intro it DI hI
 refine gl [0,1,12] (fun (_:List (Int×Value)×List (Int×Value)×Chunk×Chunk×Chunk×Chunk×Chunk)=>[]) (fun (_,_,CF,CW,CM,DI,V)=>[[(p,R9 (.slice bI 1 cS) (.slice (some ⟨gF,oF,none⟩) 1 cF) (.slice (some ⟨gW,oW,none⟩) 1 cW) (.map (some r)))],DF,DW,CF,CW,CM,DI,V]) (fun (L,rest,CF,CW,CM,DI,V)=>yf r it .u64 L rest CM DI/\Fz m L (FA t (rest.map (·.1)) a) V/\DO pf s m (a.D.filter fun k => !(iA t (rest.map (·.1)) a).contains k) CF/\Fy pw s m ((FA t (rest.map (·.1)) a).flatMap (·.2)) CW) (fun (_,rest,_)=>rest.length) (L0,L0,CF,CW,CM,DI,V) ?_ ?_
 ·have h1:FA t (L0.map (·.1)) a=a.fI:=List.filter_eq_self.2 fun g hg=>by
   unfold kQ
   have:(L0.map (·.1)).contains g.1=true:=by rw [<-mM];simpa using List.mem_map_of_mem (f:=(·.1)) hg
   rw [this,Bool.or_true]
  have h2:iA t (L0.map (·.1)) a=[]:=by
   unfold iA
   rw [List.filter_eq_nil_iff.2 fun g hg => ?_]; · rfl
   unfold kQ
   have:(L0.map (·.1)).contains g.1=true:=by rw [<-mM];simpa using List.mem_map_of_mem (f:=(·.1)) hg
   rw [this,Bool.or_true];simp
  refine ⟨hI,by rw [h1];exact hG,qS.congr fun k=>by rw [h2];simp,by rw [h1];exact wb⟩
 ·clear hG qS wb hI hM ek mM
  rintro ⟨L,rest,CF,CW,CM,DI,V⟩ ⟨hI,hG,qS,wb⟩
  have hIn:=hI.nodup
  have hLn:=hI.mp.nodup
  refine NM ?_ ?_
  ·rintro rfl
   refine gz ?_
   have e1:FA t [] a=(a.sync t).fI:=List.filter_congr fun g _=>by simp [kQ]
   have e2:∀k,k∈a.D.filter (fun k => !(iA t [] a).contains k)↔k∈(a.sync t).D:=fun k=>by
    simp only [Rm.sync,List.mem_filter,iA,kQ]
    simp
   refine fin ⟨_,⟨bI,cS,DS,_,cF,DF,_,cW,DW,pf,pw,r,L,CF,CW,CM,V,hS,hF,WT,qS.congr e2,by rw [show (a.sync t).W=(FA t [] a).flatMap (·.2) by rw [e1];rfl];exact wb,hI.mp,by rw [<-e1];exact hG,rfl⟩,rfl⟩ aa
  ·rintro X q v Y GR rfl gN qL hE
   refine NN ?_
   have Sa:(X++Y).map (·.1)=X.map (·.1)++Y.map (·.1):=List.map_append
   have hky:(X++(q,v) :: Y).map (·.1)=X.map (·.1)++q :: Y.map (·.1):=by simp
   rw [hky] at hG qS wb hIn
   have My:q∉X.map (·.1)++Y.map (·.1):=by
    have:=hIn.1
    rw [List.nodup_append,List.nodup_cons] at this
    obtain ⟨-,⟨n2, -⟩,n3⟩:=this
    simp only [List.mem_append,not_or]
    exact ⟨fun h=>n3 q h q (List.mem_cons_self ..) rfl,n2⟩
   have hlen:(X++Y).length<(X++(q,v) :: Y).length:=by simp only [List.length_append,List.length_cons];omega
   have Sb:q∈L.map (·.1):=hIn.2 q (by simp)
   have stay:jJ t q=false->Fz m L (FA t ((X++Y).map (·.1)) a) V/\DO pf s m (a.D.filter fun k => !(iA t ((X++Y).map (·.1)) a).contains k) CF/\Fy pw s m ((FA t ((X++Y).map (·.1)) a).flatMap (·.2)) CW:=fun h=>by
    rw [Sa,<-Zj h,<-Pu h];exact ⟨hG,qS,wb⟩
   refine gg ?_ ?_ <;> intro h1
   ·obtain ⟨k1,k2,k3⟩:=stay (by simp only [jJ,decide_eq_false_iff_not];omega)
    refine gn ?_
    exact ⟨(L,X++Y,CF,CW,CM,GR,V),⟨qL,k1,k2,k3⟩,hlen,aq,_,aa⟩
   ·have ht2:IntKind.u64.wrap ((t:Int) - 2)=(t:Int) - 2:=by rw [IntWalk.u64_in _ oZ]
    refine gi ?_ ?_ <;> intro h2
    ·obtain ⟨k1,k2,k3⟩:=stay (by simp only [jJ,decide_eq_false_iff_not];omega)
     refine gn ?_
     exact ⟨(L,X++Y,CF,CW,CM,GR,V),⟨qL,k1,k2,k3⟩,hlen,aq,_,aa⟩
    ·have hrp:jJ t q=true:=by simp only [jJ,decide_eq_true_eq];omega
     clear stay
     obtain ⟨ks,V1,D,V2,jG,rfl,hD,xE⟩:=hG.cut hLn gN
     rw [IU hrp My,<-Sa] at xE
     have DV:(q,ks)∈a.fI:=(List.mem_filter.1 jG).1
     have hu:=fun g hg=>abD g hg q ks DV
     have lY:ks.length<=1280:=ha.abC hm.1 hs.2 DV
     have aee:ks.Nodup:=ha.nodup DV
     have Fv:∀k∈ks,k∈a.D:=fun k hk=>ha.wd k (List.mem_flatMap.2 ⟨_,DV,hk⟩)
     have Fo:∀k∈ks,k∈a.D.filter fun k => !(iA t (X.map (·.1)++q :: Y.map (·.1)) a).contains k:=fun k hk=>by
      refine List.mem_filter.2 ⟨Fv k hk, ?_⟩
      simp only [List.contains_eq_mem,Bool.not_eq_true',decide_eq_false_iff_not]
      intro h
      obtain ⟨g,g1,g2,g3,g4⟩:=we.1 h
      have:=ha.one g1 DV g4 hk
      rw [this] at g3
      exact g3 (by simp)
     have hW0:∀k∈ks,k∈(FA t (X.map (·.1)++q :: Y.map (·.1)) a).flatMap (·.2):=fun k hk=>List.mem_flatMap.2 ⟨_,jG,hk⟩
     have abE:∀k,(k∈(FA t (X.map (·.1)++q :: Y.map (·.1)) a).flatMap (·.2)/\k∉ks)↔k∈(FA t ((X++Y).map (·.1)) a).flatMap (·.2):=fun k=>by
      rw [Sa,<-IU hrp My]
      simp only [List.mem_flatMap,List.mem_filter,bne_iff_ne,ne_eq]
      constructor
      ·rintro ⟨⟨g,g1,g2⟩,g3⟩
       refine ⟨g,⟨g1,fun e=>g3 ?_⟩,g2⟩
       rw [hu g (List.mem_filter.1 g1).1 e] at g2;exact g2
      ·rintro ⟨g,⟨g1,g2⟩,g3⟩
       refine ⟨⟨g,g1,g3⟩,fun e=>g2 ?_⟩
       rw [ha.one (List.mem_filter.1 g1).1 DV g3 e]
     have abF:∀k,(k∈(a.D.filter fun k => !(iA t (X.map (·.1)++q :: Y.map (·.1)) a).contains k)/\k∉ks)↔k∈a.D.filter fun k => !(iA t ((X++Y).map (·.1)) a).contains k:=fun k=>by
      rw [Sa]
      have:=Ar (k:=k) hrp My DV hu
      simp only [List.mem_filter,List.contains_eq_mem,Bool.not_eq_true',decide_eq_false_iff_not,this,not_or,and_assoc]
     have abG:(jU L q).isSome=true:=by rw [gN];rfl
     have pc:iu (X++Y) q=X++Y:=wc (by rw [Sa];exact My)
     generalize (a.D.filter fun k => !(iA t (X.map (·.1)++q :: Y.map (·.1)) a).contains k)=D0 at *
     generalize (FA t (X.map (·.1)++q :: Y.map (·.1)) a).flatMap (·.2)=W0 at *
     clear hG hE hI jG hu DV
     have jw:=hD.rd
     obtain ⟨Bw,cD,rfl⟩:=hD.slice
     refine gs ?_
     refine gl [0,1,4,12,26,27] (fun ((i,_):Nat×Chunk×Chunk)=>[(28,.int .i64 i)]) (fun (_,CF,CW)=>[CF,CW]) (fun (i,CF,CW)=>i<=ks.length/\DO pf s m (D0.filter fun k => !(ks.take i).contains k) CF/\Fy pw s m (W0.filter fun k => !(ks.take i).contains k) CW) (fun (i,_)=>ks.length - i) (0,CF,CW) ⟨by omega,qS.congr fun k=>by simp,wb.congr fun k=>by simp⟩ ?_
     rintro ⟨i,CF,CW⟩ ⟨hi,qS,wb⟩
     refine gi ?_ ?_ <;> intro bo
     ·have bm:i<ks.length:=by omega
      obtain ⟨k,hk⟩:∃k,k=ks[i]:=⟨_,rfl⟩
      have hx:ks[i]? = some k:=by rw [hk];exact List.getElem?_eq_getElem bm
      have hkm:k∈ks:=List.mem_of_getElem? hx
      have FB:k∉ks.take i:=fun h=>by
       obtain ⟨j,hj,e⟩:=List.getElem_of_mem h
       rw [List.length_take] at hj
       rw [List.getElem_take] at e
       have:=(List.getElem_inj aee).1 (e.trans hk)
       omega
      have Dv:∀j,j∈ks.take (i+1)↔j∈ks.take i\/j=k:=fun j=>by
       rw [List.take_add_one,hx];simp
      obtain ⟨gD,oD,rfl⟩:=jw.addr oZ
      have xp:=ar Pl.aj (KR m ks) i _ (Pj hx)
      have Sc:=ha.dl k (Fv k hkm)
      refine ga ?_;intro b7
      refine gc (T8 pw s m hm.1 hs.2 k Sc CW _ wb (List.mem_filter.2 ⟨hW0 k hkm,by simpa using FB⟩)) ?_
      rintro _ _ ⟨rfl,CW',Ps,rfl⟩
      refine gc (Pg pf s m hm.1 hs.2 k Sc CF _ qS (List.mem_filter.2 ⟨Fo k hkm,by simpa using FB⟩)) ?_
      rintro _ _ ⟨rfl,wg,Pv,rfl⟩
      refine gn ?_
      refine ⟨(i+1,wg,CW'),⟨by omega,Pv.congr fun j => ?_,Ps.congr fun j => ?_⟩,by simp only;omega,aq,_,aa⟩
      ·simp only [List.mem_filter,List.contains_eq_mem,Bool.not_eq_true',decide_eq_false_iff_not,bne_iff_ne,ne_eq,Dv,not_or,and_assoc]
      ·simp only [List.mem_filter,List.contains_eq_mem,Bool.not_eq_true',decide_eq_false_iff_not,bne_iff_ne,ne_eq,Dv,not_or,and_assoc]
     ·obtain rfl:i=ks.length:=by omega
      rw [List.take_length] at qS wb
      refine gx ?_
      intro CM' IV
      rw [pc] at IV
      refine gn ?_
      refine ⟨(_,X++Y,CF,CW,CM',GR,V1++V2),⟨IV,xE,qS.congr fun j => ?_,wb.congr fun j => ?_⟩,hlen,aq,_,aa⟩
      ·rw [<-abF];simp only [List.mem_filter,List.contains_eq_mem,Bool.not_eq_true',decide_eq_false_iff_not]
      ·rw [<-abE];simp only [List.mem_filter,List.contains_eq_mem,Bool.not_eq_true',decide_eq_false_iff_not]
theorem Ug (p:Nat)(s m:Int)(hm:8<=m/\m<=1000)(hs:1<=s/\s<=10240)(a:Rm)(A:Chunk)(hA:pd p s m a A)(hr:∃k:Nat,k∉a.D/\(k+1:Int)*m<=s)(O:Chunk)(ad:Option Addr)(c:Nat)(hO:Rd O 1 (.slice ad 1 c) 1 [.int .i64 m]) :
  Ct 262 [ptr p,.slice ad 1 c] [A,O] fun u Bs=>∃k:Nat,k∉a.D/\(k+1:Int)*m<=s/\u = .tuple #[.agg #[.int .i64 0,.int .i64 (k*m),.int .i64 m],.int .i64 0]/\∃A',pd p s m (a.take k) A'/\Bs=[A',O]:=by
 obtain ⟨bI,cS,DS,Bu,cF,DF,Bv,cW,DW,pf,pw,r,L,CF,CW,CM,V,hS,hF,WT,qS,wb,hM,hG,rfl⟩:=hA
 have Pp:=hF.rd
 obtain ⟨gF,oF,rfl⟩:=Pp.addr oZ
 have aef:=Zh (.slice ad 1 c) O m hO
 have Zk:=Zi (.slice ad 1 c) O m hO
 have abH:=Ph pf s m hm hs.2 CF a.D qS hr
 obtain ⟨gO,oO,rfl⟩:=hO.addr oZ
 refine st Tryz.func262 fun w0 => ?_
 refine gs ?_
 refine ga ?_;intro b2
 refine ga ?_;intro b4
 refine gc aef ?_
 rintro _ _ ⟨rfl,rfl⟩
 refine gc Zk ?_
 rintro _ _ ⟨rfl,rfl⟩
 refine gl [1,2,4,33,34] (fun ((i,v6,_):Nat×Value×Chunk)=>[(35,.int .i64 i),(6,v6)]) (fun (_,_,C6)=>[C6]) (fun (i,v6,C6)=>i<=1/\(i=0->v6 = .slice none 0 0/\C6=[])/\(i=1->∃Gi c6,v6 = .slice Gi 1 c6/\az C6 3 1 v6 1 [.int .i64 0])) (fun (i,_)=>1 - i) (0,.slice none 0 0,[]) ⟨by omega,fun _=>⟨rfl,rfl⟩,fun h=>by omega⟩ ?_
 rintro ⟨i,v6,C6⟩ ⟨hi,h0,h1⟩
 refine gi ?_ ?_ <;> intro bo
 ·obtain rfl:i=0:=by omega
  obtain ⟨rfl,rfl⟩:=h0 rfl
  refine gm ?_;intro b44
  refine gp ?_;intro Gi c6 C6 hC6
  refine gn ?_
  exact ⟨(1,_,C6),⟨by omega,fun h=>by omega,fun _=>⟨Gi,c6,rfl,hC6⟩⟩,by simp only;omega,aq,_,aa⟩
 ·obtain rfl:i=1:=by omega
  obtain ⟨Gi,c6,rfl,hC6⟩:=h1 rfl
  have Fq:=hC6.rd
  obtain ⟨g6,o6,rfl⟩:=Fq.addr oZ
  refine gc (Pm (some ⟨g6,o6,none⟩) c6 (.func (.func 286) #[] #[ptr b2]) C6) ?_
  rintro _ _ rfl
  refine gl [1,2,4,50,51] (fun (_:Nat)=>[(52,.int .i64 0)]) (fun _=>[]) (fun _=>True) (fun _=>0) 0 True.intro ?_
  rintro n -
  refine gd [0,4,8,12,16,20,24,28,32,36,40,47,50,54,58,62,66] ?_
  refine gc abH ?_
  rintro _ _ ⟨k,hk,FC,rfl,rfl⟩
  refine ga ?_;intro b13
  refine qM [[(p,R9 (.slice bI 1 cS) (.slice (some ⟨gF,oF,none⟩) 1 cF) (.slice Bv 1 cW) (.map (some r)))],DF,[(b13,ax [.int .i64 (k*m),.int .i64 m] 143)],[(b2,ax [ptr p] 97)]] [0,4,8,12,16,20,24,28,32,36,40,45,51,54] ?_
  refine gc (DQ pf s m hm.1 hs.2 k FC CF a.D qS hk) ?_
  rintro _ _ ⟨rfl,wg,Pv,rfl⟩
  refine gz ?_
  exact fin ⟨k,hk,FC,rfl,_,⟨bI,cS,DS,_,cF,DF,Bv,cW,DW,pf,pw,r,L,wg,CW,CM,V,hS,hF,WT,Pv,wb,hM,hG,rfl⟩,rfl⟩ aa
theorem GS (s m:Int)(hm:8<=m/\m<=1000)(hs:1<=s/\s<=10240)(O:Chunk)(ad:Option Addr)(c:Nat)(hO:Rd O 1 (.slice ad 1 c) 1 [.int .i64 s])(ks:List Nat)(hn:ks.Nodup)(hk:∀k∈ks,(k+1:Int)*m<=s)(U:Chunk)(WV:Option Addr)(cU:Nat)(hU:Rd U 3 (.slice WV ks.length cU) ks.length ((KR m ks).flatMap Pl.lay)) :
  Ct 35 [.slice ad 1 c,.slice WV ks.length cU] [O,U] fun u Bs=>∃p A,u = .tuple #[ptr p,.int .i64 0]/\pd p s m ⟨ks,[]⟩ A/\Bs=[A,O,U]:=by
 have lY:ks.length<=1280:=p7 1280 ks hn fun k h=>by
  have:=hk k h
  have h2:=Int.mul_le_mul_of_nonneg_left hm.1 (show (0:Int)<=k+1 by omega)
  omega
 have h1:=Pn ad c O s oZ hO
 have h2:=GQ O ad 1 c _ hO oZ
 obtain ⟨gO,oO,rfl⟩:=hO.addr oZ
 refine st Tryz.func35 fun w0 => ?_
 refine gc h1 ?_
 rintro _ _ ⟨rfl,rfl⟩
 refine gc h2 ?_
 rintro _ _ ⟨bI,cS,DS,rfl,hS,rfl⟩
 refine uM .u64 ?_;intro r CM hM
 refine ga ?_;intro p
 refine gl [0,1,7,30,31] (fun ((i,_):Nat×Value×Value×Chunk×Chunk×Chunk×Chunk)=>[(32,.int .i64 i)]) (fun (_,vF,vW,DF,DW,CF,CW)=>[[(p,R9 (.slice bI 1 cS) vF vW (.map (some r)))],DF,DW,CF,CW]) (fun (i,vF,vW,DF,DW,CF,CW)=>i<=1/\(i=0->vF = .slice none 0 0/\vW = .slice none 0 0/\DF=[]/\DW=[]/\CF=[]/\CW=[])/\(i=1->∃Bu cF Bv cW pf pw,vF = .slice Bu 1 cF/\vW = .slice Bv 1 cW/\az DF 186 1 vF 1 [ptr pf]/\az DW 186 1 vW 1 [ptr pw]/\DO pf s m [] CF/\Fy pw s m [] CW)) (fun (i,_)=>1 - i) (0,.slice none 0 0,.slice none 0 0,[],[],[],[]) ⟨by omega,fun _=>⟨rfl,rfl,rfl,rfl,rfl,rfl⟩,fun h=>by omega⟩ ?_
 rintro ⟨i,vF,vW,DF,DW,CF,CW⟩ ⟨hi,e0,e1⟩
 refine gi ?_ ?_ <;> intro bo
 ·obtain rfl:i=0:=by omega
  obtain ⟨rfl,rfl,rfl,rfl,rfl,rfl⟩:=e0 rfl
  refine gd [0,4,8,12,16,20,25,29,33,36,40,47] ?_
  refine gc (KQ s m hs) ?_
  rintro _ _ ⟨pf,CF,rfl,qS,rfl⟩
  refine gm ?_;intro b43
  refine gp ?_;intro Bu cF DF hF
  refine gd [0,4,8,12,16,21,25,29,32,36,43] ?_
  refine gc (T9 s m) ?_
  rintro _ _ ⟨pw,CW,rfl,wb,rfl⟩
  refine gm ?_;intro b53
  refine gp ?_;intro Bv cW DW hW
  refine gn ?_
  exact ⟨(1,_,_,DF,DW,CF,CW),⟨by omega,fun h=>oZ,fun _=>⟨Bu,cF,Bv,cW,pf,pw,rfl,rfl,hF,hW,qS,wb⟩⟩,by simp only;omega,aq,_,aa⟩
 ·obtain rfl:i=1:=by omega
  obtain ⟨Bu,cF,Bv,cW,pf,pw,rfl,rfl,hF,hW,qS,wb⟩:=e1 rfl
  have Pp:=hF.rd
  obtain ⟨gF,oF,rfl⟩:=Pp.addr oZ
  refine gl [7,58,59] (fun ((i,_):Nat×Chunk)=>[(60,.int .i64 i)]) (fun (_,CF)=>[CF]) (fun (i,CF)=>i<=ks.length/\DO pf s m (ks.take i) CF) (fun (i,_)=>ks.length - i) (0,CF) ⟨by omega,qS⟩ ?_
  rintro ⟨i,CF⟩ ⟨hi,qS⟩
  refine gi ?_ ?_ <;> intro bo
  ·have bm:i<ks.length:=by omega
   obtain ⟨k,Sa⟩:∃k,k=ks[i]:=⟨_,rfl⟩
   have hx:ks[i]? = some k:=by rw [Sa];exact List.getElem?_eq_getElem bm
   have FC:=hk k (List.mem_of_getElem? hx)
   have FB:k∉ks.take i:=fun h=>by
    obtain ⟨j,hj,e⟩:=List.getElem_of_mem h
    rw [List.length_take] at hj
    rw [List.getElem_take] at e
    have:=(List.getElem_inj hn).1 (e.trans Sa)
    omega
   obtain ⟨gU,oU,rfl⟩:=hU.addr oZ
   have xp:=ar Pl.aj (KR m ks) i _ (Pj hx)
   refine ga ?_;intro b11
   refine gd [0,4,8,13,16,20,24,28,32,36,40,44,48,52,56,60,67,70,74] ?_
   refine gc (Po p (.slice none 0 0) _ _ _ bI cS) ?_
   rintro _ _ ⟨rfl,rfl⟩
   refine gc (DQ pf s m hm.1 hs.2 k FC CF _ qS FB) ?_
   rintro _ _ ⟨rfl,wg,Pv,rfl⟩
   refine gn ?_
   refine ⟨(i+1,wg),⟨by omega,Pv.congr fun j => ?_⟩,by simp only;omega,aq,_,aa⟩
   rw [List.take_add_one,hx];simp [or_comm]
  ·obtain rfl:i=ks.length:=by omega
   rw [List.take_length] at qS
   refine gz ?_
   exact fin ⟨p,_,rfl,⟨bI,cS,DS,_,cF,DF,Bv,cW,DW,pf,pw,r,[],CF,CW,CM,[],hS,hF,hW,qS,wb,hM,rfl,rfl⟩,rfl⟩ aa
theorem yA (t pool:Nat)(fV:Option Addr)(mT cT:Nat)(vI vL vD:Value)(no i j:Nat):Ct 29 [ptr t,.int .i64 i,.int .i64 j] [[(t,Dx pool (.slice fV mT cT) vI vL vD no)]] fun u Bs=>u = .agg #[.int .u64 pool,.slice fV mT cT,.int .i64 i,.int .i64 j]/\Bs=[[(t,Dx pool (.slice fV mT cT) vI vL vD no)]]:=by
 refine st Tryz.func29 fun w0 => ?_
 refine ga ?_;intro b6
 refine gz ?_
 exact fin ⟨rfl,rfl⟩ aa
theorem yB (t pool:Nat)(tp:Tp)(w:Nat)(hw:tp.leaves=w/\w<=5)(fV:Option Addr)(cT:Nat)(DT:Chunk)(hT:az DT 23 3 (.slice fV 1 cT) 1 tp.lay)(vI:Value)(no:Nat) :
  Ct 30 [ptr t] [[(t,Dx pool (.slice fV 1 cT) vI (.slice none 0 0) (.slice none 0 0) no)],DT] fun _ Bs=>∃jX cL DL gl Bw cD DD gd,az DL 95 1 (.slice jX 1 cL) 1 [.slice (some ⟨gl,0,none⟩) w w]/\az DD 38 1 (.slice Bw 1 cD) 1 [.slice (some ⟨gd,0,none⟩) w w] /\
   Bs=[[(t,Dx pool (.slice fV 1 cT) vI (.slice jX 1 cL) (.slice Bw 1 cD) no)],DT,DL,[(gl,ax (List.replicate w (.pointer none)) 92)],DD,[(gd,ax (List.replicate w (.pointer none)) 46)]]:=by
 have hTr:=hT.rd
 obtain ⟨gT,oT,rfl⟩:=hTr.addr oZ
 have hsT:Sub (0*3) tp.lay tp.lay:=ar Tp.aj [tp] 0 tp rfl
 obtain ⟨kd,lv,se⟩:=tp
 obtain ⟨rfl,hw⟩:=hw
 refine st Tryz.func30 fun w0 => ?_
 refine gl [0,7,8] (fun ((j,_):Nat×Value×Value×Chunk×Chunk×Chunk×Chunk)=>[(9,.int .i64 j)]) (fun (_,vL,vD,DL,Dl,DD,Dd)=>[[(t,Dx pool (.slice (some ⟨gT,oT,none⟩) 1 cT) vI vL vD no)],DL,Dl,DD,Dd]) (fun (j,vL,vD,DL,Dl,DD,Dd)=>j<=1/\(j=0->vL = .slice none 0 0/\vD = .slice none 0 0/\DL=[]/\Dl=[]/\DD=[]/\Dd=[])/\(j=1->∃jX cL gl Bw cD gd,vL = .slice jX 1 cL/\vD = .slice Bw 1 cD/\az DL 95 1 (.slice jX 1 cL) 1 [.slice (some ⟨gl,0,none⟩) w w]/\az DD 38 1 (.slice Bw 1 cD) 1 [.slice (some ⟨gd,0,none⟩) w w]/\Dl=[(gl,ax (List.replicate w (.pointer none)) 92)]/\Dd=[(gd,ax (List.replicate w (.pointer none)) 46)])) (fun (j,_)=>1 - j) (0,.slice none 0 0,.slice none 0 0,[],[],[],[]) ⟨by omega,(fun _=>⟨rfl,rfl,rfl,rfl,rfl,rfl⟩),(fun h=>by cases h)⟩ ?_
 rintro ⟨j,vL,vD,DL,Dl,DD,Dd⟩ ⟨hj,h0,h1⟩
 refine gi ?_ ?_ <;> intro bo
 ·obtain rfl:j=0:=by omega
  obtain ⟨rfl,rfl,rfl,rfl,rfl,rfl⟩:=h0 rfl
  refine ga ?_;intro b3
  refine gd [0,4,8,12,16,20,24,29,33,37,40,44,51] ?_
  refine gm ?_;intro lQ
  refine gm ?_;intro b21
  refine gp ?_;intro jX cL DL DY
  refine gd [0,4,8,12,16,20,24,29,33,37,40,44,51] ?_
  refine gm ?_;intro nQ
  refine gm ?_;intro b33
  refine gp ?_;intro Bw cD DD Mz
  refine gn ?_
  exact ⟨(1,_,_,DL,_,DD,_),⟨by omega,(fun h=>by cases h),(fun _=>⟨jX,cL,lQ,Bw,cD,nQ,rfl,rfl,DY,Mz,rfl,rfl⟩)⟩,by simp only;omega,aq,_,aa⟩
 ·obtain rfl:j=1:=by omega
  obtain ⟨jX,cL,lQ,Bw,cD,nQ,rfl,rfl,DY,Mz,rfl,rfl⟩:=h1 rfl
  refine gz ?_
  exact fin ⟨jX,cL,DL,lQ,Bw,cD,DD,nQ,DY,Mz,rfl⟩ aa
theorem DZ (p:Nat)(qs:List Nat)(t pool:Nat)(tp:Tp)(pr:Bool)(n:Nat)(ls:List (Option Lv))(ok:dK tp pr n ls.length)(hall:∀x∈ls,x≠none)(R:Rk)(C L:Chunk)(hC:bq p qs R C)(ho:dJ qs R n ls)(hL:iy (fun k=>⟨pool,[tp],0,k⟩) 0 ls L)
  (fV:Option Addr) (cT:Nat) (DT:Chunk) (hT:az DT 23 3 (.slice fV 1 cT) 1 tp.lay) (jX:Option Addr) (cL:Nat) (DL:Chunk) (oH:Option Addr) (cl:Nat) (Dl:Chunk) (DY:az DL 95 1 (.slice jX 1 cL) 1 [.slice oH ls.length cl]) (Bx:az Dl 92 1 (.slice oH ls.length cl) ls.length (ls.map iw)) (vD:Value) (DD:Chunk) (no:Nat) :
  Ct 34 [ptr t] [[(t,Dx pool (.slice fV 1 cT) (.slice none 0 0) (.slice jX 1 cL) vD no)],DT,DL,Dl,DD,C,L] fun u Bs=>u = .int .i64 0/\∃V,jb t pool tp pr n ls no V/\Bs=[V,C]:=by
 have hn:=ok.hn
 have j9:=ok.hw
 have htp:=ok.ht
 have Fv:=ok.hk
 have hTr:=hT.rd
 obtain ⟨gT,oT,rfl⟩:=hTr.addr oZ
 have IW:=DY.rd
 obtain ⟨gL,oL,rfl⟩:=IW.addr oZ
 have qO:[Value.slice oH ls.length cl][0]? = some (.slice oH ls.length cl):=rfl
 have tz:=Bx.rd
 have hsT:Sub (0*3) tp.lay tp.lay:=ar Tp.aj [tp] 0 tp rfl
 have hcn:ls.countP (·.isNone)<=1:=by
  have:ls.countP (·.isNone)=0:=List.countP_eq_zero.2 fun o qR=>by
   rcases o with _ | x
   ·exact absurd rfl (hall _ qR)
   ·simp
  omega
 have hex:∃x,some x∈ls:=by
  obtain ⟨ox,hx⟩:=eB (l:=ls) (i:=0) oZ
  rcases ox with _ | x
  ·exact absurd rfl (hall _ (List.mem_of_getElem? hx))
  ·exact ⟨x,List.mem_of_getElem? hx⟩
 refine st Tryz.func34 fun w0 => ?_
 refine gl [0,12,13] (fun ((j,_):Nat×Value×Chunk×Chunk)=>[(14,.int .i64 j)]) (fun (_,vI,DI,M)=>[[(t,Dx pool (.slice (some ⟨gT,oT,none⟩) 1 cT) vI (.slice (some ⟨gL,oL,none⟩) 1 cL) vD no)],DI,M]) (fun (j,vI,DI,M)=>j<=1/\(j=0->vI = .slice none 0 0/\DI=[]/\M=[])/\(j=1->∃m dQ cI,vI = .slice dQ 1 cI/\az DI 177 1 (.slice dQ 1 cI) 1 [IN pr m]/\DvC pr m ls (n - 292) M)) (fun (j,_)=>1 - j) (0,.slice none 0 0,[],[]) ⟨by omega,(fun _=>⟨rfl,rfl,rfl⟩),(fun h=>by cases h)⟩ ?_
 rintro ⟨j,vI,DI,M⟩ ⟨hj,h0,h1⟩
 refine gi ?_ ?_ <;> intro bo
 ·obtain rfl:j=0:=by omega
  obtain ⟨rfl,rfl,rfl⟩:=h0 rfl
  refine ga ?_;intro b4
  cases pr with
  | true =>
   have hk3:tp.kind=3:=by simpa using Fv
   refine gc (Y4 p qs n ls _ hn ⟨ok.hp rfl,j9.2⟩ R C L hC hL ho hcn Dl oH cl tz) ?_
   rintro _ _ ⟨m,M,rfl,hM,rfl⟩
   refine ge ?_
   refine gmi ?_
   refine gta ?_
   refine gm ?_;intro b66
   refine gp ?_;intro dQ cI DI Zl
   refine gn ?_
   exact ⟨(1,_,DI,M),⟨by omega,(fun h=>by cases h),(fun _=>⟨m,dQ,cI,rfl,Zl,hM⟩)⟩,by simp only;omega,aq,_,aa⟩
  | false =>
   have hk3:tp.kind≠3:=by simpa using Fv
   refine gc (Y1 p qs n ls _ hn j9 R C L hC hL ho hex Dl oH cl tz) ?_
   rintro _ _ ⟨m,M,rfl,hM,rfl⟩
   refine ge ?_
   refine gmi ?_
   refine gta ?_
   refine gm ?_;intro b66
   refine gp ?_;intro dQ cI DI Zl
   refine gn ?_
   exact ⟨(1,_,DI,M),⟨by omega,(fun h=>by cases h),(fun _=>⟨m,dQ,cI,rfl,Zl,hM⟩)⟩,by simp only;omega,aq,_,aa⟩
 ·obtain rfl:j=1:=by omega
  obtain ⟨m,dQ,cI,rfl,Zl,hM⟩:=h1 rfl
  refine gz ?_
  exact fin ⟨rfl,_,⟨m,M,_,cT,DT,dQ,cI,DI,_,cL,DL,oH,cl,Dl,vD,DD,L,hT,Zl,DY,Bx,hM,hL,rfl⟩,rfl⟩ aa
end Go.Proofs.YteldablklnfblaaGreatDoor
