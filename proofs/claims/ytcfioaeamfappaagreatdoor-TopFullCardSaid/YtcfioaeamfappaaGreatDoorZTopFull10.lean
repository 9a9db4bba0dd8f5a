/-
  Texts put together (10).
-/
import Derived.Test.YtcfioaeamfappaaGreatDoorZTopFull9
namespace Go.Proofs.YtcfioaeamfappaaGreatDoor
open Go.Sl
set_option maxRecDepth 10000
set_option maxHeartbeats 4000000
theorem gY (p:Nat)(l:List Sp)(mn:Int)(ad:Option Addr)(c:Nat)(D:Chunk)(hD:az D 150 2 (.slice ad l.length c) l.length (l.flatMap Sp.lay))(hl:l.length<=4096)(a b:Nat)(hab:a<=b/\b<=l.length)(X:Chunk)(Wk:Option Addr)(cx:Nat)(x:List Sp)(m:Nat)(hm:x.length=m)(hX:Rd X 2 (.slice Wk m cx) m (x.flatMap Sp.lay))(hf:l.length - (b - a)+m<=4096) :
  Ct 150 [ptr p,.int .i64 a,.int .i64 b,.slice Wk m cx] [[(p,rsO (.slice ad l.length c) mn)],D,X] fun u Bs=>u = .int .i64 0/\∃A,LX p (l.take a++x++l.drop b) mn A/\Bs=[A,X]:=by
 have jq:=hD.rd
 have abd:=hD.dL
 have Yq:IntKind.i64.wrap ((b:Int) - a)=((b - a:Nat):Int):=by rw [IntWalk.i64_in _ oZ];omega
 have R4:IntKind.i64.wrap ((l.length:Int) - ((b - a:Nat):Int))=((l.length - (b - a):Nat):Int):=by rw [IntWalk.i64_in _ oZ];omega
 have hw3:IntKind.i64.wrap (((l.length - (b - a):Nat):Int)+(m:Nat))=((l.length - (b - a)+m:Nat):Int):=by rw [IntWalk.i64_in _ oZ];omega
 have hy1:((l.flatMap Sp.lay).drop (0*2)).take ((a - 0)*2)=(l.take a).flatMap Sp.lay:=by rw [Nat.zero_mul,List.drop_zero,Nat.sub_zero,lB]
 have LV:a - 0=a:=rfl
 have hy2:((l.flatMap Sp.lay).drop (b*2)).take ((l.length - b)*2)=(l.drop b).flatMap Sp.lay:=by
  rw [pS,lB,List.take_of_length_le (by rw [List.length_drop];omega)]
 refine st Tryz.func150 fun w0 => ?_
 refine qC [[(p,rsO (.slice ad l.length c) mn)]] [0,4,8,12,16,20,24,28,32,36,40,44,48,52,56,60,64,68,72,76,80,84,88,92,96,101,105,108,112,119] ?_
 refine gw ?_;intro iI hR1
 refine gw ?_;intro ad2 kr
 refine gm ?_;intro b47
 have afB:Rd D 2 (.slice iI (l.take a).length (a - 0)) (l.take a).length ((l.take a).flatMap Sp.lay):=by rw [List.length_take,Nat.min_eq_left oZ];exact hR1
 have afC:Rd D 2 (.slice ad2 (l.drop b).length (l.length - b)) (l.drop b).length ((l.drop b).flatMap Sp.lay):=by rw [List.length_drop];exact kr
 have hS:Sls (D++X) [(.slice iI a (a - 0),l.take a),(.slice Wk m cx,x),(.slice ad2 (l.length - b) (l.length - b),l.drop b)]:=by
  refine ⟨fun y hy => ?_,fun y hy => ?_,by simp, ?_⟩
  ·simp only [List.mem_cons,List.not_mem_nil,or_false] at hy
   rcases hy with rfl | rfl | rfl
   ·have h:(l.take a).length=a:=by rw [List.length_take];omega
    simp only [h]
    exact hR1.sub fun q hq=>List.mem_append_left _ hq
   ·simp only [hm]
    exact hX.sub fun q hq=>List.mem_append_right _ hq
   ·have h:(l.drop b).length=l.length - b:=by rw [List.length_drop]
    simp only [h]
    exact kr.sub fun q hq=>List.mem_append_left _ hq
  ·simp only [List.mem_cons,List.not_mem_nil,or_false] at hy
   rcases hy with rfl | rfl | rfl
   ·exact ⟨iI,a - 0,by simp only [List.length_take];rw [Nat.min_eq_left oZ]⟩
   ·exact ⟨Wk,cx,by rw [hm]⟩
   ·exact ⟨ad2,l.length - b,by simp only [List.length_drop]⟩
  ·simp only [nI,List.flatMap_cons,List.flatMap_nil,List.length_append,List.length_take,List.length_drop,List.length_nil,hm];omega
 have hV:Rd [(b47,av [.slice iI a (a - 0),.slice Wk m cx,.slice ad2 (l.length - b) (l.length - b)] 128)] 1 (.slice (some ⟨b47,0,none⟩) 3 3) 3 [.slice iI a (a - 0),.slice Wk m cx,.slice ad2 (l.length - b) (l.length - b)]:=aw rfl (by simp [Value.oneCell']) oZ _
 have hcc:=Ki _ (D++X) _ 3 _ rfl hV hS
 refine gc hcc ?_
 rintro u _ ⟨C,hC,rfl⟩
 have hle:nI [(.slice iI a (a - 0),l.take a),(.slice Wk m cx,x),(.slice ad2 (l.length - b) (l.length - b),l.drop b)]=(l.take a++x++l.drop b).length:=by simp [nI]
 rw [hle] at hC
 obtain ⟨adc,ccp,rfl⟩:=hC.slice
 have BY:az C 150 2 (.slice adc (l.take a++x++l.drop b).length ccp) (l.take a++x++l.drop b).length ((l.take a++x++l.drop b).flatMap Sp.lay):=by simpa using hC
 refine gs ?_
 refine gz ?_
 exact fin ⟨rfl,_,⟨adc,ccp,C,BY,rfl⟩,rfl⟩ aa
end Go.Proofs.YtcfioaeamfappaaGreatDoor
namespace Go.Sl
structure Rp (s:Int)(P:Int->Prop)(l:List Sp):Prop where
 gd:Gd l
 mem:∀n,Sl.lX l n↔P n
 lim:∀n,P n->0<=n/\n<s
theorem YL {s:Int}{l:List Sp}(h:Gd l):∀b:Int,(∀y∈l,b<=y.at_/\y.fin<=s)->2*(l.length:Int)<=max 0 (s - b+1):=by
 induction l with
 | nil=>intro b _;simp only [List.length_nil];omega
 | cons y r ih =>
  intro b hb
  obtain ⟨h1,h2,h3⟩:=bZ.1 h
  have h6:=Sp.ax.1 h1
  have h4:=hb y (List.mem_cons_self ..)
  have h5:=ih h3 (y.fin+1) (fun z hz=>⟨by have:=h2 z hz;omega,(hb z (List.mem_cons_of_mem _ hz)).2⟩)
  simp only [List.length_cons,Sp.fin] at *
  omega
section
variable {s:Int}{P Q:Int->Prop}{l m:List Sp}{x:Sp}
theorem Rp.in (h:Rp s P l){y:Sp}(hy:y∈l):0<=y.at_/\y.fin<=s:=by
 have m1:=Sp.ax.1 (h.gd.may y hy)
 have h1:=h.lim _ ((h.mem y.at_).1 ⟨y,hy,by simp only [Sp.has,Sp.fin];omega⟩)
 have h2:=h.lim _ ((h.mem (y.fin - 1)).1 ⟨y,hy,by simp only [Sp.has,Sp.fin];omega⟩)
 simp only [Sp.fin] at *;omega
theorem Rp.len (h:Rp s P l)(hs:s<=8191):l.length<=4096:=by
 have:=YL h.gd 0 (fun y hy=>h.in hy)
 omega
theorem Rp.congr (h:Rp s P l)(hpq:∀n,P n↔Q n):Rp s Q l:=⟨h.gd,fun n=>(h.mem n).trans (hpq n),fun n hn=>h.lim n ((hpq n).2 hn)⟩
theorem YM (s:Int):Rp s (fun _=>False) []:=⟨zX,fun n=>by simp [lX],fun _ h=>h.elim⟩
def fV (n:Int):List Sp:=if 0<n then [⟨0,n⟩] else []
def sfx (k n:Int):List Sp:=if k<n then [⟨k,n - k⟩] else []
theorem Kk (n:Int):fV n=sfx 0 n:=by simp [fV,sfx]
theorem YN {k n:Int}(hk:0<=k)(hn:n<=1099511627776):Rp n (fun i=>k<=i/\i<n) (sfx k n):=by
 unfold sfx
 split
 ·refine ⟨bZ.2 ⟨by rw [Sp.ax];simp only;omega,by simp,zX⟩,fun i => ?_,fun i hi=>⟨by omega,hi.2⟩⟩
  simp only [Gr,Sp.has,Sp.fin];omega
 ·refine ⟨zX,fun i => ?_,fun i hi=>⟨by omega,hi.2⟩⟩
  simp only [lX,List.not_mem_nil,false_and,exists_false,false_iff];omega
theorem vJ {n:Int}(hn:n<=1099511627776):Rp n (fun i=>0<=i/\i<n) (fV n):=by rw [Kk];exact YN oZ hn
theorem Rp.has (h:Rp s P l)(hx:x.may=true):lW l x=true↔∀n,x.has n->P n:=by
 constructor
 ·intro hh n hn
  obtain ⟨y,hy,h1,h2⟩:=vy h.gd hh
  exact (h.mem n).1 ⟨y,hy,by simp only [Sp.has] at *;omega⟩
 ·intro hp
  exact OF h.gd hx (cover h.gd hx fun n hn=>(h.mem n).2 (hp n hn))
theorem Rp.meets (h:Rp s P l)(hx:x.may=true):eb l x=true↔∃n,x.has n/\P n:=by
 have m1:=Sp.ax.1 hx
 simp only [eb,hx,Bool.true_and,decide_eq_true_eq,nj h.gd hx]
 constructor
 ·rintro ⟨y,hy,h1,h2⟩
  have m2:=Sp.ax.1 (h.gd.may y hy)
  refine ⟨max x.at_ y.at_,by simp only [Sp.has,Sp.fin] at *;omega,(h.mem _).1 ⟨y,hy,by simp only [Sp.has,Sp.fin] at *;omega⟩⟩
 ·rintro ⟨n,hn,hp⟩
  obtain ⟨y,hy,hyn⟩:=(h.mem n).2 hp
  exact ⟨y,hy,by simp only [Sp.has] at *;omega,by simp only [Sp.has] at *;omega⟩
theorem Rp.yn (h:Rp s P l)(hx:x.may=true):eb l x=false↔∀n,x.has n->¬P n:=by
 rw [<-Bool.not_eq_true,h.meets hx]
 constructor
 ·intro q n hn hp;exact q ⟨n,hn,hp⟩
 ·rintro q ⟨n,hn,hp⟩;exact q n hn hp
theorem Rp.abe (h:Rp s P l)(hx:x.may=true)(h2:x.fin<=s)(hd:∀n,x.has n->¬P n)(hl:s<=8191\/l.length<=4000):vx l x=0/\Rp s (fun n=>P n\/x.has n) (Gp l x)/\cw (Gp l x)=cw l+x.many:=by
 have m1:=Sp.ax.1 hx
 have hap:=z7 h.gd hx (fun n hn hxn=>hd n hxn ((h.mem n).1 hn))
 have I:=vp h.gd hx hap
 have R:Rp s (fun n=>P n\/x.has n) (bM l x false):=⟨I.gd,fun n=>by rw [I.mem,h.mem],fun n hn=>by
  rcases hn with hn | hn
  ·exact h.lim n hn
  ·simp only [Sp.has] at hn;omega⟩
 have c:vx l x=0:=OG h.gd hx hap (by
  rcases hl with hl | hl
  ·exact R.len hl
  ·have:=I.len;omega)
 refine ⟨c,by rw [tw c];exact R,rz h.gd c⟩
theorem Rp.abf (h:Rp s P l)(hx:x.may=true)(hd:∀n,x.has n->P n)(hl:s<=8191\/l.length<=4000):xo l x=0/\Rp s (fun n=>P n/\¬x.has n) (Gq l x)/\cw (Gq l x)=cw l - x.many:=by
 have hh:=(h.has hx).2 hd
 have J:=yj h.gd hx (vy h.gd hh)
 have R:Rp s (fun n=>P n/\¬x.has n) (lA l x):=⟨J.gd,fun n=>by rw [J.mem,h.mem],fun n hn=>h.lim n hn.1⟩
 have c:xo l x=0:=by
  unfold xo
  rw [if_pos hh,if_neg]
  rcases hl with hl | hl
  ·have:=R.len hl;omega
  ·have:=J.len;omega
 exact ⟨c,by rw [tA c];exact R,rA h.gd c⟩
theorem Rp.find (h:Rp s P l){k a:Int}(hf:gG l k 0=(a,true)):(⟨a,k⟩:Sp).may=true/\0<=a/\1<=k/\a+k<=s/\∀n,(⟨a,k⟩:Sp).has n->P n:=by
 obtain ⟨h1,h2, -⟩:=find_spec h.gd hf
 have hm:=tz h2
 have m1:=Sp.ax.1 hm
 have h3:=(h.has hm).1 h2
 have h4:=h.lim _ (h3 (a+k - 1) (by simp only [Sp.has,Sp.fin] at *;omega))
 simp only at m1
 exact ⟨hm,h1,by omega,by omega,h3⟩
theorem Rp.YO (h:Rp s P l){k a b:Int}(hk:1<=k)(hf:gG l k 0=(a,false))(hb:0<=b)(hbm:b+k<=1099511627776)(hp:∀n,(⟨b,k⟩:Sp).has n->P n):False:=by
 obtain ⟨y,hy,h1,h2⟩:=vy h.gd ((h.has (by rw [Sp.ax];simp only;omega)).2 hp)
 simp only [Sp.fin] at h2
 obtain ⟨c,hc, -⟩:=Gs h.gd hk (Int.le_refl 0) hy (by have:=h.in hy;simp only [Sp.fin] at *;omega) (by have:=h.in hy;simp only [Sp.fin] at *;omega)
 rw [hf] at hc
 cases hc
end
structure Pl where
 top:Int
 sp:Sp
deriving DecidableEq
def Pl.lay (p:Pl):List Value:=[.int .i64 p.top,.int .i64 p.sp.at_,.int .i64 p.sp.many]
theorem Pl.aj (p:Pl):p.lay.length=3:=rfl
structure Al where
 ae6:List Int
 free:List (List Sp)
 waits:List (List Sp)
 fB:List (Int×List Pl)
def jF (txg k:Int):Bool:=decide (2<=txg/\k<=txg - 2)
section
variable {a b:Al}{p:Pl}{t:Nat}{l:List Sp}
theorem TH:zV []:=⟨by simp,by simp,by simp⟩
theorem Kl {n:Int}(hn:n<=40960):zV (fV n):=(vJ oZ).gd.LW (by unfold fV;split <;> simp)
end
section
variable {a:Al}{need:List Int}{t:Nat}{at_:Int}{l:List Sp}
end
def YP (s m:Int)(D:List Nat)(n:Int):Prop:=0<=n/\n<s/\(n / m).toNat∉D
def YQ (m:Int)(W:List Nat)(n:Int):Prop:=0<=n/\(n / m).toNat∈W
def kK (m:Int)(k:Nat):Sp:=⟨k*m,m⟩
theorem oz {m n:Int}(hm:0<m)(k:Nat)(hn:0<=n):(n / m).toNat=k↔(kK m k).has n:=by
 simp only [kK,Sp.has,Sp.fin]
 have e:=Int.emod_add_mul_ediv n m
 have h1:=Int.emod_nonneg n (show m≠0 by omega)
 have h2:=Int.emod_lt_of_pos n hm
 have h0:=Int.ediv_nonneg hn (show 0<=m by omega)
 constructor
 ·rintro rfl
  rw [Int.toNat_of_nonneg h0,Int.mul_comm];omega
 ·rintro ⟨g1,g2⟩
  have h3:¬n / m<k:=fun h=>by
   have:=Int.mul_le_mul_of_nonneg_left (show n / m+1<=k by omega) (show 0<=m by omega)
   rw [Int.mul_add,Int.mul_comm m k] at this;omega
  have h4:¬(k:Int)+1<=n / m:=fun h=>by
   have:=Int.mul_le_mul_of_nonneg_left h (show 0<=m by omega)
   rw [Int.mul_add,Int.mul_comm m k] at this;omega
  omega
theorem Dg {m n:Int}(hm:0<m)(hn:0<=n)(h:n % m≠0):(n - 1) / m=n / m:=by
 have e:=Int.emod_add_mul_ediv n m
 have h1:=Int.emod_nonneg n (show m≠0 by omega)
 have h2:=Int.emod_lt_of_pos n hm
 have:n - 1=(n % m - 1)+m*(n / m):=by omega
 rw [this,Int.add_mul_ediv_left _ _ oZ,Int.ediv_eq_zero_of_lt oZ oZ];omega
section
variable {s m:Int}{P:Int->Prop}{l:List Sp}{D W:List Nat}{k:Nat}
theorem ON (h:Rp s P l)(hP:∀n,P n->n % m≠0->P (n - 1)):∀y∈l,y.at_ % m=0:=by
 intro y hy
 have m1:=Sp.ax.1 (h.gd.may y hy)
 refine Classical.byContradiction fun hc => ?_
 obtain ⟨z,hz,hzn⟩:=(h.mem _).2 (hP _ ((h.mem y.at_).1 ⟨y,hy,by simp only [Sp.has,Sp.fin];omega⟩) hc)
 have m2:=Sp.ax.1 (h.gd.may z hz)
 obtain ⟨i,hi,rfl⟩:=List.getElem_of_mem hy
 obtain ⟨j,hj,rfl⟩:=List.getElem_of_mem hz
 have g:=List.pairwise_iff_getElem.1 h.gd.yh
 simp only [Sp.has,Sp.fin] at *
 rcases Nat.lt_trichotomy i j with c | rfl | c
 ·have:=g i j hi hj c;omega
 ·omega
 ·have:=g j i hj hi c;omega
theorem YR (hm:0<m)(h:Gd l)(h0:∀y∈l,y.at_ % m=0):∀b N:Int,b<=N->(∀y∈l,b<=y.at_ / m/\y.at_ / m<N)->(l.length:Int)<=N - b:=by
 induction l with
 | nil=>intro b N hb _;simp only [List.length_nil];omega
 | cons y r ih =>
  intro b N hb hy
  obtain ⟨h1,h2,h3⟩:=bZ.1 h
  have m1:=Sp.ax.1 h1
  have hy0:=hy y (List.mem_cons_self ..)
  have:=ih h3 (fun z hz=>h0 z (List.mem_cons_of_mem _ hz)) (y.at_ / m+1) N oZ (fun z hz=>⟨by
   have k1:=h2 z hz
   have e1:=Int.emod_add_mul_ediv y.at_ m
   have e2:=Int.emod_add_mul_ediv z.at_ m
   rw [h0 y (List.mem_cons_self ..)] at e1
   rw [h0 z (List.mem_cons_of_mem _ hz)] at e2
   have:¬z.at_ / m<=y.at_ / m:=fun c=>by
    have:=Int.mul_le_mul_of_nonneg_left c (show 0<=m by omega)
    simp only [Sp.fin] at k1;omega
   omega,(hy z (List.mem_cons_of_mem _ hz)).2⟩)
  simp only [List.length_cons];omega
theorem rB (h:Rp s P l)(hm:8<=m)(hs:s<=10240)(hP:∀n,P n->n % m≠0->P (n - 1)):l.length<=1280:=by
 have:=YR (m:=m) oZ h.gd (ON h hP) 0 1280 oZ (fun y hy=>by
  have k:=h.in hy
  have m1:=Sp.ax.1 (h.gd.may y hy)
  refine ⟨Int.ediv_nonneg k.1 oZ,Int.ediv_lt_of_lt_mul oZ ?_⟩
  have:=Int.mul_le_mul_of_nonneg_left hm (show (0:Int)<=1280 by omega)
  simp only [Sp.fin] at k;omega)
 omega
theorem tB (hm:8<=m):∀n,YP s m D n->n % m≠0->YP s m D (n - 1):=fun n ⟨h1,h2,h3⟩ h=>by
 have:n≠0:=fun e=>h (by rw [e];exact Int.zero_emod _)
 exact ⟨by omega,by omega,by rwa [Dg oZ h1 h]⟩
theorem Aa (hm:8<=m):∀n,YQ m W n->n % m≠0->YQ m W (n - 1):=fun n ⟨h1,h3⟩ h=>by
 have:n≠0:=fun e=>h (by rw [e];exact Int.zero_emod _)
 exact ⟨by omega,by rwa [Dg oZ h1 h]⟩
abbrev Fg (s m:Int)(D:List Nat)(l:List Sp):Prop:=Rp s (YP s m D) l
abbrev LZ (s m:Int)(W:List Nat)(l:List Sp):Prop:=Rp s (YQ m W) l
theorem Fg.LW (h:Fg s m D l)(hm:8<=m)(hs:s<=10240):zV l:=h.gd.LW (by have:=rB h hm hs (tB hm);omega)
theorem LZ.LW (h:LZ s m W l)(hm:8<=m)(hs:s<=10240):zV l:=h.gd.LW (by have:=rB h hm hs (Aa hm);omega)
theorem jv (hm:8<=m)(hs:s<=10240)(hk:(k+1:Int)*m<=s):(kK m k).may=true/\0<=k*m/\(kK m k).fin<=s:=by
 have h0:=Int.mul_nonneg (show (0:Int)<=k by omega) (show 0<=m by omega)
 rw [Int.add_mul,Int.one_mul] at hk
 refine ⟨?_,h0,by simp only [kK,Sp.fin];omega⟩
 rw [Sp.ax];simp only [kK];omega
theorem Km (hs:s<=10240):Fg s m [] (fV s):=(vJ oZ).congr fun n=>by simp [YP]
theorem Kn:LZ s m [] []:=(YM s).congr fun n=>by simp [YQ]
theorem j6 (hm:8<=m){n:Int}(h:(kK m k).has n):0<=n/\(n / m).toNat=k:=by
 have h0:=Int.mul_nonneg (show (0:Int)<=k by omega) (show 0<=m by omega)
 have:0<=n:=by have:=h.1;simp only [kK] at this;omega
 exact ⟨this,(oz oZ k this).2 h⟩
theorem Fg.take (h:Fg s m D l)(hm:8<=m)(hs:s<=10240)(hk:(k+1:Int)*m<=s)(hd:k∉D):xo l (kK m k)=0/\Fg s m (k :: D) (Gq l (kK m k)):=by
 obtain ⟨h1,h2,h3⟩:=jv hm hs hk
 obtain ⟨g1,g2, -⟩:=Rp.abf h h1 (fun n hn=>by
  obtain ⟨q1,q2⟩:=j6 hm hn
  exact ⟨q1,by have:=hn.2;omega,by rwa [q2]⟩) (.inr (by have:=rB h hm hs (tB hm);omega))
 refine ⟨g1,g2.congr fun n => ?_⟩
 simp only [YP,List.mem_cons,not_or]
 constructor
 ·rintro ⟨⟨q1,q2,q3⟩,q4⟩
  exact ⟨q1,q2,fun e=>q4 ((oz oZ k q1).1 e),q3⟩
 ·rintro ⟨q1,q2,q4,q3⟩
  exact ⟨⟨q1,q2,q3⟩,fun e=>q4 ((oz oZ k q1).2 e)⟩
theorem Fg.back (h:Fg s m D l)(hm:8<=m)(hs:s<=10240)(hk:(k+1:Int)*m<=s)(hd:k∈D):vx l (kK m k)=0/\Fg s m (D.filter fun j=>j != k) (Gp l (kK m k)):=by
 obtain ⟨h1,h2,h3⟩:=jv hm hs hk
 obtain ⟨g1,g2, -⟩:=Rp.abe h h1 h3 (fun n hn hp=>hp.2.2 (by rw [(j6 hm hn).2];exact hd)) (.inr (by have:=rB h hm hs (tB hm);omega))
 refine ⟨g1,g2.congr fun n => ?_⟩
 simp only [YP,List.mem_filter,bne_iff_ne,ne_eq,not_and,Classical.not_not]
 constructor
 ·rintro (⟨q1,q2,q3⟩ | q)
  ·exact ⟨q1,q2,fun e=>absurd e q3⟩
  ·obtain ⟨q1,q2⟩:=j6 hm q
   exact ⟨q1,by have:=q.2;omega,fun _=>q2⟩
 ·rintro ⟨q1,q2,q3⟩
  by_cases c:(n / m).toNat∈D
  ·exact .inr ((oz oZ k q1).1 (q3 c))
  ·exact .inl ⟨q1,q2,c⟩
theorem LZ.add (h:LZ s m W l)(hm:8<=m)(hs:s<=10240)(hk:(k+1:Int)*m<=s)(hd:k∉W):vx l (kK m k)=0/\LZ s m (W++[k]) (Gp l (kK m k)):=by
 obtain ⟨h1,h2,h3⟩:=jv hm hs hk
 obtain ⟨g1,g2, -⟩:=Rp.abe h h1 h3 (fun n hn hp=>hd (by have:=hp.2;rwa [(j6 hm hn).2] at this)) (.inr (by have:=rB h hm hs (Aa hm);omega))
 refine ⟨g1,g2.congr fun n => ?_⟩
 simp only [YQ,List.mem_append,List.mem_singleton]
 constructor
 ·rintro (⟨q1,q2⟩ | q)
  ·exact ⟨q1,.inl q2⟩
  ·obtain ⟨q1,q2⟩:=j6 hm q
   exact ⟨q1,.inr q2⟩
 ·rintro ⟨q1,q2 | q2⟩
  ·exact .inl ⟨q1,q2⟩
  ·exact .inr ((oz oZ k q1).1 q2)
theorem LZ.rem (h:LZ s m W l)(hm:8<=m)(hs:s<=10240)(hk:(k+1:Int)*m<=s)(hd:k∈W):xo l (kK m k)=0/\LZ s m (W.filter fun j=>j != k) (Gq l (kK m k)):=by
 obtain ⟨h1,h2,h3⟩:=jv hm hs hk
 obtain ⟨g1,g2, -⟩:=Rp.abf h h1 (fun n hn=>by
  obtain ⟨q1,q2⟩:=j6 hm hn
  exact ⟨q1,by rwa [q2]⟩) (.inr (by have:=rB h hm hs (Aa hm);omega))
 refine ⟨g1,g2.congr fun n => ?_⟩
 simp only [YQ,List.mem_filter,bne_iff_ne,ne_eq]
 constructor
 ·rintro ⟨⟨q1,q2⟩,q4⟩
  exact ⟨q1,q2,fun e=>q4 ((oz oZ k q1).1 e)⟩
 ·rintro ⟨q1,q2,q4⟩
  exact ⟨⟨q1,q2⟩,fun e=>q4 ((oz oZ k q1).2 e)⟩
theorem Fg.meets (h:Fg s m D l)(hm:8<=m)(hs:s<=10240)(hk:(k+1:Int)*m<=s)(hd:k∈D):eb l (kK m k)=false :=
 (Rp.yn h (jv hm hs hk).1).2 fun n hn hp=>hp.2.2 (by rw [(j6 hm hn).2];exact hd)
theorem LZ.meets (h:LZ s m W l)(hm:8<=m)(hs:s<=10240)(hk:(k+1:Int)*m<=s)(hd:k∉W):eb l (kK m k)=false :=
 (Rp.yn h (jv hm hs hk).1).2 fun n hn hp=>hd (by have:=hp.2;rwa [(j6 hm hn).2] at this)
theorem Ko (hm:8<=m)(hs:s<=10240)(hk:(k+1:Int)*m<=s):lW (fV s) (kK m k)=true:=by
 obtain ⟨h1,h2,h3⟩:=jv hm hs hk
 refine (Rp.has (vJ oZ) h1).2 fun n hn=>⟨(j6 hm hn).1,by have:=hn.2;omega⟩
theorem Fg.find (h:Fg s m D l)(hm:8<=m)(hs:s<=10240){a:Int}(hf:gG l m 0=(a,true)):∃k:Nat,a=k*m/\(k+1:Int)*m<=s/\k∉D:=by
 obtain ⟨h1,h2,h3,h4,h5⟩:=Rp.find h hf
 have hy:a % m=0:=by
  unfold gG at hf
  rw [if_neg oZ] at hf
  obtain ⟨y,hy,e, -⟩:=vz hf
  have:=ON h (tB hm) y hy
  have:=h.in hy
  rw [show a=y.at_ by omega];assumption
 have e:=Int.emod_add_mul_ediv a m
 have h0:=Int.ediv_nonneg h2 (show 0<=m by omega)
 rw [hy,Int.zero_add,Int.mul_comm] at e
 refine ⟨(a / m).toNat,by rw [Int.toNat_of_nonneg h0];exact e.symm,by rw [Int.add_mul,Int.toNat_of_nonneg h0,e];omega, ?_⟩
 exact (h5 a (by simp only [Sp.has,Sp.fin];omega)).2.2
theorem Fg.found (h:Fg s m D l)(hm:8<=m)(hs:s<=10240)(hk:(k+1:Int)*m<=s)(hd:k∉D):(gG l m 0).2=true:=by
 obtain ⟨h1,h2,h3⟩:=jv hm hs hk
 cases hc:(gG l m 0).2 with
 | true=>rfl
 | false =>
  have:=Rp.YO h (k:=m) (a:=(gG l m 0).1) (b:=k*m) oZ (by rw [<-hc]) h2 (by simp only [kK,Sp.fin] at h3;omega) (fun n hn=>by
   obtain ⟨q1,q2⟩:=j6 (k:=k) hm hn
   exact ⟨q1,by have:=hn.2;simp only [kK,Sp.fin] at *;omega,by rwa [q2]⟩)
  exact this.elim
end
structure Rm where
 D:List Nat
 fB:List (Int×List Nat)
def Rm.W (a:Rm):List Nat:=a.fB.flatMap (·.2)
structure Rm.Ok (s m:Int)(a:Rm):Prop where
 dl:∀k∈a.D,(k+1:Int)*m<=s
 wn:a.W.Nodup
 wd:∀k∈a.W,k∈a.D
def lY:List (Int×List Nat)->Int->Nat->List (Int×List Nat)
 | [],g,k=>[(g,[k])]
 | (j,l) :: r,g,k=>if j=g then (j,l++[k]) :: r else (j,l) :: lY r g k
def Rm.free (a:Rm)(g:Int)(k:Nat):Rm:=⟨a.D,lY a.fB g k⟩
def Rm.take (a:Rm)(k:Nat):Rm:=⟨k :: a.D,a.fB⟩
def Rm.sync (a:Rm)(t:Int):Rm:=⟨a.D.filter fun k => !((a.fB.filter fun g=>jF t g.1).flatMap (·.2)).contains k,a.fB.filter fun g => !jF t g.1⟩
end Go.Sl
namespace Go.Proofs.YtcfioaeamfappaaGreatDoor
open Go.Sl
set_option maxRecDepth 10000
set_option maxHeartbeats 4000000
theorem OO (p:Nat)(l:List Sp)(mn:Int)(A:Chunk)(hA:LX p l mn A)(hG:zV l)(x:Sp)(hh:lW l x=true)(hlen:(lA l x).length<=4096)(hmn:0<=mn/\mn<=1099511627776):Ct 105 [ptr p,x.agg] [A] fun u Bs=>u = .int .i64 0/\∃A',LX p (lA l x) (mn - x.many) A'/\Bs=[A']:=by
 have hm:=tz hh
 have FY:=Sp.ax.1 hm
 have hha:=OI p l mn A hA hG x oZ
 rw [hh] at hha
 refine st Tryz.func105 fun w0 => ?_
 refine ga ?_;intro b3
 refine gc hha ?_
 rintro _ _ ⟨rfl,rfl⟩
 refine gc (nn p l mn x.at_ A hA hG) ?_
 rintro _ _ ⟨k,rfl,hk,rfl⟩
 obtain ⟨ad,c,D,hD,rfl⟩:=hA
 have jq:=hD.rd
 obtain ⟨lV,h1,h2⟩:=(tu hG.gd hm hk).1 hh
 have gh:=hG.at lV
 have rC:=Tz hG.gd hm hk lV h1 h2
 obtain ⟨g,off,rfl⟩:=jq.addr oZ
 have hs:=ar Sp.aj l k _ (List.getElem?_eq_getElem lV)
 obtain ⟨y,hy⟩:∃y,y=l[k]:=⟨_,rfl⟩
 rw [<-hy] at gh hs rC h1 h2
 refine gs ?_
 refine ga ?_;intro b6
 have xm:=hG.len
 have TI:¬x.common y=0:=by unfold Sp.common;rw [if_neg (by simp only [Sp.fin] at *;omega)];simp only [Sp.fin] at *;omega
 have hfy:y.fin=y.at_+y.many:=rfl
 have hfx:x.fin=x.at_+x.many:=rfl
 have Yq:IntKind.i64.wrap (x.at_ - y.at_)=x.at_ - y.at_:=IntWalk.i64_in _ oZ
 have R4:IntKind.i64.wrap (y.fin - x.fin)=y.fin - x.fin:=IntWalk.i64_in _ oZ
 have hw3:IntKind.i64.wrap (mn - x.many)=mn - x.many:=IntWalk.i64_in _ oZ
 have hey:=iM y oZ
 have hex:=iM x oZ
 refine gi ?_ ?_ <;> intro h3
 ·have h3:y.at_<x.at_:=by simpa using h3
  refine gm ?_;intro b38
  refine gp ?_;intro sN c7 C7 hC7
  refine gd [0,8,5,15,18] ?_
  refine gc hey ?_
  rintro _ _ ⟨rfl,rfl⟩
  refine gc hex ?_
  rintro _ _ ⟨rfl,rfl⟩
  refine gi ?_ ?_ <;> intro h4
  ·have h4:x.fin<y.fin:=by simpa using h4
   refine gd [0,4,12,20,9,17,25,28,32,37,43,46] ?_
   refine gc hex ?_
   rintro _ _ ⟨rfl,rfl⟩
   refine gc hey ?_
   rintro _ _ ⟨rfl,rfl⟩
   refine gc hex ?_
   rintro _ _ ⟨rfl,rfl⟩
   refine gm ?_;intro b54
   refine gp ?_;intro yd c8 C8 LN
   have OB:ew x y=[⟨y.at_,x.at_ - y.at_⟩,⟨x.fin,y.fin - x.fin⟩]:=by unfold ew;rw [if_neg TI,if_pos h3,if_pos h4];rfl
   rw [OB] at rC
   have bL:=gY p l mn (some ⟨g,off,none⟩) c D hD hG.len k (k+1) oZ _ _ _ [⟨y.at_,x.at_ - y.at_⟩,⟨x.fin,y.fin - x.fin⟩] 2 rfl LN.rd (by rw [rC] at hlen;simp only [List.length_append,List.length_take,List.length_drop,List.length_cons,List.length_nil] at hlen;omega)
   rw [<-rC] at bL
   refine gc bL ?_
   rintro _ _ ⟨rfl,A',dX,rfl⟩
   obtain ⟨ba,c',D',eo,rfl⟩:=dX
   refine gs ?_
   refine gz ?_
   exact fin ⟨rfl,_,⟨ba,c',D',eo,rfl⟩,rfl⟩ aa
  ·have h4:¬x.fin<y.fin:=by simpa using h4
   have OB:ew x y=[⟨y.at_,x.at_ - y.at_⟩]:=by unfold ew;rw [if_neg TI,if_pos h3,if_neg h4];rfl
   rw [OB] at rC
   have bL:=gY p l mn (some ⟨g,off,none⟩) c D hD hG.len k (k+1) oZ _ _ _ [⟨y.at_,x.at_ - y.at_⟩] 1 rfl hC7.rd (by rw [rC] at hlen;simp only [List.length_append,List.length_take,List.length_drop,List.length_cons,List.length_nil] at hlen;omega)
   rw [<-rC] at bL
   refine gc bL ?_
   rintro _ _ ⟨rfl,A',dX,rfl⟩
   obtain ⟨ba,c',D',eo,rfl⟩:=dX
   refine gs ?_
   refine gz ?_
   exact fin ⟨rfl,_,⟨ba,c',D',eo,rfl⟩,rfl⟩ aa
 ·have h3:¬y.at_<x.at_:=by simpa using h3
  refine gd [0,8,5,15,18] ?_
  refine gc hey ?_
  rintro _ _ ⟨rfl,rfl⟩
  refine gc hex ?_
  rintro _ _ ⟨rfl,rfl⟩
  refine gi ?_ ?_ <;> intro h4
  ·have h4:x.fin<y.fin:=by simpa using h4
   refine gd [0,4,12,20,9,17,25,28,32,37,43,46] ?_
   refine gc hex ?_
   rintro _ _ ⟨rfl,rfl⟩
   refine gc hey ?_
   rintro _ _ ⟨rfl,rfl⟩
   refine gc hex ?_
   rintro _ _ ⟨rfl,rfl⟩
   refine gm ?_;intro b54
   refine gp ?_;intro yd c8 C8 LN
   have OB:ew x y=[⟨x.fin,y.fin - x.fin⟩]:=by unfold ew;rw [if_neg TI,if_neg h3,if_pos h4];rfl
   rw [OB] at rC
   have bL:=gY p l mn (some ⟨g,off,none⟩) c D hD hG.len k (k+1) oZ _ _ _ [⟨x.fin,y.fin - x.fin⟩] 1 rfl LN.rd (by rw [rC] at hlen;simp only [List.length_append,List.length_take,List.length_drop,List.length_cons,List.length_nil] at hlen;omega)
   rw [<-rC] at bL
   refine gc bL ?_
   rintro _ _ ⟨rfl,A',dX,rfl⟩
   obtain ⟨ba,c',D',eo,rfl⟩:=dX
   refine gs ?_
   refine gz ?_
   exact fin ⟨rfl,_,⟨ba,c',D',eo,rfl⟩,rfl⟩ aa
  ·have h4:¬x.fin<y.fin:=by simpa using h4
   have OB:ew x y=([]:List Sp):=by unfold ew;rw [if_neg TI,if_neg h3,if_neg h4];rfl
   rw [OB] at rC
   have bL:=gY p l mn (some ⟨g,off,none⟩) c D hD hG.len k (k+1) oZ _ _ _ ([]:List Sp) 0 rfl (Rd.nil [] 2) (by rw [rC] at hlen;simp only [List.length_append,List.length_take,List.length_drop,List.length_cons,List.length_nil] at hlen;omega)
   rw [<-rC] at bL
   refine gc bL ?_
   rintro _ _ ⟨rfl,A',dX,rfl⟩
   obtain ⟨ba,c',D',eo,rfl⟩:=dX
   refine gs ?_
   refine gz ?_
   exact fin ⟨rfl,_,⟨ba,c',D',eo,rfl⟩,rfl⟩ aa
theorem Gz (p:Nat)(l:List Sp)(mn:Int)(A:Chunk)(hA:LX p l mn A)(hG:zV l)(x:Sp)(hm:x.may=true)(VC:eb l x=false)(hlen:(bM l x false).length<=4096)(hmn:0<=mn/\mn<=1099511627776):Ct 146 [ptr p,x.agg] [A] fun u Bs=>u = .int .i64 0/\∃A',LX p (bM l x false) (mn+x.many) A'/\Bs=[A']:=by
 have FY:=Sp.ax.1 hm
 have hme:=vC p l mn A hA hG x oZ
 have hma:=Gu x oZ
 rw [VC] at hme
 rw [hm] at hma
 have xm:=hG.len
 refine st Tryz.func146 fun w0 => ?_
 refine ga ?_;intro b3
 refine gc hma ?_
 rintro _ _ ⟨rfl,rfl⟩
 refine gc hme ?_
 rintro _ _ ⟨rfl,rfl⟩
 refine gc (nn p l mn x.at_ A hA hG) ?_
 rintro _ _ ⟨k,rfl,hk,rfl⟩
 obtain ⟨ad,c,D,hD,rfl⟩:=hA
 have jq:=hD.rd
 have lV:=hk.1
 have xh:∀h:k<l.length,x.fin<=l[k].at_:=fun h=>by
  have:=ry hG.gd hm hk
  rw [VC] at this
  have h2:¬l[k].at_<x.fin:=fun q=>by simp at this;have:=this h;omega
  omega
 refine gs ?_
 have hw9:IntKind.i64.wrap (mn+x.many)=mn+x.many:=IntWalk.i64_in _ oZ
 refine gd [0,4,8,12,16,20,24,28,32,36,40,48,52,45,56,60] ?_
 refine gg ?_ ?_ <;> intro xP
 ·have xP:0<k:=by omega
  have hk1:k - 1<l.length:=by omega
  have gh:=hG.at hk1
  obtain ⟨g,off,rfl⟩:=jq.addr oZ
  have hs:=ar Sp.aj l (k - 1) _ (List.getElem?_eq_getElem hk1)
  have hkw:IntKind.i64.wrap ((k:Int) - 1)=((k - 1:Nat):Int):=by rw [IntWalk.i64_in _ oZ];omega
  refine gc (iM l[k - 1] oZ) ?_
  rintro _ _ ⟨rfl,rfl⟩
  refine gi ?_ ?_ <;> intro he
  ·have he:(l[k - 1]).fin=x.at_:=by simpa using he
   have abg:=fun (rZ:k<l.length) (h2:l[k].at_=(⟨(l[k - 1]).at_,(l[k - 1]).many+x.many⟩:Sp).fin)=>wLR hG.gd hm rZ xP he h2
   have hwL:=fun (h2:¬ ∃h:k<l.length,l[k].at_=(⟨(l[k - 1]).at_,(l[k - 1]).many+x.many⟩:Sp).fin)=>wL hG.gd hm lV xP he xh h2
   have Cq:=Gt hG.gd hm lV xP he
   obtain ⟨x1,hxd⟩:∃x1:Sp,x1=⟨(l[k - 1]).at_,(l[k - 1]).many+x.many⟩:=⟨_,rfl⟩
   have hxa:(l[k - 1]).at_=x1.at_:=by rw [hxd]
   have Ti:(l[k - 1]).many+x.many=x1.many:=by rw [hxd]
   rw [<-hxd] at Cq hwL abg
   have afD:=Sp.ax.1 Cq
   have xe:=hs 0 _ rfl
   have xg:=hs 1 _ rfl
   have hwx:IntKind.i64.wrap ((l[k - 1]).many+x.many)=x1.many:=by rw [Ti];exact IntWalk.i64_in _ oZ
   rw [hxa] at xe
   refine go ?_
   refine gd [0,4,8,12,16,20,24,28,32,36,40,44,48,52,56,60,64,69,72,76] ?_
   refine gg ?_ ?_ <;> intro rZ
   ·have rZ:k<l.length:=by omega
    have abh:=hG.at rZ
    have lU:=ar Sp.aj l k _ (List.getElem?_eq_getElem rZ)
    have OJ:=lU 0 _ rfl
    have OK:=lU 1 _ rfl
    refine gc (iM x1 oZ) ?_
    rintro _ _ ⟨rfl,rfl⟩
    refine gi ?_ ?_ <;> intro w5
    ·have w5:l[k].at_=x1.fin:=by simpa using w5
     have N8:IntKind.i64.wrap (x1.many+l[k].many)=x1.many+l[k].many:=IntWalk.i64_in _ oZ
     refine gm ?_;intro iy
     have hw:=(by have:=abg rZ w5;rw [hxa,Ti] at this;exact this)
     have xp:Rd [(iy,av [.int .i64 x1.at_,.int .i64 (x1.many+l[k].many)] 150)] 2 (.slice (some ⟨iy,0,none⟩) 1 1) 1 [.int .i64 x1.at_,.int .i64 (x1.many+l[k].many)]:=aw rfl (by simp [Value.oneCell']) oZ _
     have bL:=gY p l mn _ c D hD xm (k - 1) (k+1) oZ _ _ _ [⟨x1.at_,x1.many+l[k].many⟩] 1 rfl xp (by have:=congrArg List.length hw;simp only [List.length_append,List.length_take,List.length_drop,List.length_cons,List.length_nil] at this;omega)
     rw [hw] at bL
     refine gc bL ?_
     rintro _ _ ⟨rfl,A',dX,rfl⟩
     obtain ⟨ba,c',D',eo,rfl⟩:=dX
     refine gs ?_
     refine gz ?_
     exact fin ⟨rfl,_,⟨ba,c',D',eo,rfl⟩,rfl⟩ aa
    ·have w5:¬l[k].at_=x1.fin:=by simpa using w5
     refine gm ?_;intro iy
     have hw:=(by have:=hwL (fun q=>w5 q.2);exact this)
     have xp:Rd [(iy,av [.int .i64 x1.at_,.int .i64 (x1.many)] 150)] 2 (.slice (some ⟨iy,0,none⟩) 1 1) 1 [.int .i64 x1.at_,.int .i64 (x1.many)]:=aw rfl (by simp [Value.oneCell']) oZ _
     have bL:=gY p l mn _ c D hD xm (k - 1) (k) oZ _ _ _ [⟨x1.at_,x1.many⟩] 1 rfl xp (by have:=congrArg List.length hw;simp only [List.length_append,List.length_take,List.length_drop,List.length_cons,List.length_nil] at this;omega)
     rw [hw] at bL
     refine gc bL ?_
     rintro _ _ ⟨rfl,A',dX,rfl⟩
     obtain ⟨ba,c',D',eo,rfl⟩:=dX
     refine gs ?_
     refine gz ?_
     exact fin ⟨rfl,_,⟨ba,c',D',eo,rfl⟩,rfl⟩ aa
   ·have rZ:¬k<l.length:=by omega
    refine gm ?_;intro iy
    have hw:=(by have:=hwL (fun q=>rZ q.1);exact this)
    have xp:Rd [(iy,av [.int .i64 x1.at_,.int .i64 (x1.many)] 150)] 2 (.slice (some ⟨iy,0,none⟩) 1 1) 1 [.int .i64 x1.at_,.int .i64 (x1.many)]:=aw rfl (by simp [Value.oneCell']) oZ _
    have bL:=gY p l mn _ c D hD xm (k - 1) (k) oZ _ _ _ [⟨x1.at_,x1.many⟩] 1 rfl xp (by have:=congrArg List.length hw;simp only [List.length_append,List.length_take,List.length_drop,List.length_cons,List.length_nil] at this;omega)
    rw [hw] at bL
    refine gc bL ?_
    rintro _ _ ⟨rfl,A',dX,rfl⟩
    obtain ⟨ba,c',D',eo,rfl⟩:=dX
    refine gs ?_
    refine gz ?_
    exact fin ⟨rfl,_,⟨ba,c',D',eo,rfl⟩,rfl⟩ aa
  ·have he:¬(l[k - 1]).fin=x.at_:=by simpa using he
   refine gd [0,4,8,12,16,20,24,28,32,36,40,44,48,52,56,60,64,69,72,76] ?_
   refine gg ?_ ?_ <;> intro rZ
   ·have rZ:k<l.length:=by omega
    have abh:=hG.at rZ
    have lU:=ar Sp.aj l k _ (List.getElem?_eq_getElem rZ)
    have OJ:=lU 0 _ rfl
    have OK:=lU 1 _ rfl
    refine gc (iM x oZ) ?_
    rintro _ _ ⟨rfl,rfl⟩
    refine gi ?_ ?_ <;> intro w5
    ·have w5:l[k].at_=x.fin:=by simpa using w5
     have N8:IntKind.i64.wrap (x.many+l[k].many)=x.many+l[k].many:=IntWalk.i64_in _ oZ
     refine gm ?_;intro iy
     have hw:=wR hG.gd hm hk (fun ⟨_,q⟩=>he q) rZ w5
     have xp:Rd [(iy,av [.int .i64 x.at_,.int .i64 (x.many+l[k].many)] 150)] 2 (.slice (some ⟨iy,0,none⟩) 1 1) 1 [.int .i64 x.at_,.int .i64 (x.many+l[k].many)]:=aw rfl (by simp [Value.oneCell']) oZ _
     have bL:=gY p l mn _ c D hD xm (k) (k+1) oZ _ _ _ [⟨x.at_,x.many+l[k].many⟩] 1 rfl xp (by have:=congrArg List.length hw;simp only [List.length_append,List.length_take,List.length_drop,List.length_cons,List.length_nil] at this;omega)
     rw [hw] at bL
     refine gc bL ?_
     rintro _ _ ⟨rfl,A',dX,rfl⟩
     obtain ⟨ba,c',D',eo,rfl⟩:=dX
     refine gs ?_
     refine gz ?_
     exact fin ⟨rfl,_,⟨ba,c',D',eo,rfl⟩,rfl⟩ aa
    ·have w5:¬l[k].at_=x.fin:=by simpa using w5
     refine gm ?_;intro iy
     have hw:=wN hG.gd hm hk (fun ⟨_,q⟩=>he q) xh (fun q=>w5 q.2)
     have xp:Rd [(iy,av [.int .i64 x.at_,.int .i64 (x.many)] 150)] 2 (.slice (some ⟨iy,0,none⟩) 1 1) 1 [.int .i64 x.at_,.int .i64 (x.many)]:=aw rfl (by simp [Value.oneCell']) oZ _
     have bL:=gY p l mn _ c D hD xm (k) (k) oZ _ _ _ [x] 1 rfl xp (by have:=congrArg List.length hw;simp only [List.length_append,List.length_take,List.length_drop,List.length_cons,List.length_nil] at this;omega)
     rw [hw] at bL
     refine gc bL ?_
     rintro _ _ ⟨rfl,A',dX,rfl⟩
     obtain ⟨ba,c',D',eo,rfl⟩:=dX
     refine gs ?_
     refine gz ?_
     exact fin ⟨rfl,_,⟨ba,c',D',eo,rfl⟩,rfl⟩ aa
   ·have rZ:¬k<l.length:=by omega
    refine gm ?_;intro iy
    have hw:=wN hG.gd hm hk (fun ⟨_,q⟩=>he q) xh (fun q=>rZ q.1)
    have xp:Rd [(iy,av [.int .i64 x.at_,.int .i64 (x.many)] 150)] 2 (.slice (some ⟨iy,0,none⟩) 1 1) 1 [.int .i64 x.at_,.int .i64 (x.many)]:=aw rfl (by simp [Value.oneCell']) oZ _
    have bL:=gY p l mn _ c D hD xm (k) (k) oZ _ _ _ [x] 1 rfl xp (by have:=congrArg List.length hw;simp only [List.length_append,List.length_take,List.length_drop,List.length_cons,List.length_nil] at this;omega)
    rw [hw] at bL
    refine gc bL ?_
    rintro _ _ ⟨rfl,A',dX,rfl⟩
    obtain ⟨ba,c',D',eo,rfl⟩:=dX
    refine gs ?_
    refine gz ?_
    exact fin ⟨rfl,_,⟨ba,c',D',eo,rfl⟩,rfl⟩ aa
 ·have xP:¬0<k:=by omega
  refine gd [0,4,8,12,16,20,24,28,32,36,40,44,48,52,56,60,64,69,72,76] ?_
  refine gg ?_ ?_ <;> intro rZ
  ·have rZ:k<l.length:=by omega
   have abh:=hG.at rZ
   obtain ⟨g,off,rfl⟩:=jq.addr oZ
   have lU:=ar Sp.aj l k _ (List.getElem?_eq_getElem rZ)
   have OJ:=lU 0 _ rfl
   have OK:=lU 1 _ rfl
   refine gc (iM x oZ) ?_
   rintro _ _ ⟨rfl,rfl⟩
   refine gi ?_ ?_ <;> intro w5
   ·have w5:l[k].at_=x.fin:=by simpa using w5
    have N8:IntKind.i64.wrap (x.many+l[k].many)=x.many+l[k].many:=IntWalk.i64_in _ oZ
    refine gm ?_;intro iy
    have hw:=wR hG.gd hm hk (fun q=>xP q.1) rZ w5
    have xp:Rd [(iy,av [.int .i64 x.at_,.int .i64 (x.many+l[k].many)] 150)] 2 (.slice (some ⟨iy,0,none⟩) 1 1) 1 [.int .i64 x.at_,.int .i64 (x.many+l[k].many)]:=aw rfl (by simp [Value.oneCell']) oZ _
    have bL:=gY p l mn _ c D hD xm (k) (k+1) oZ _ _ _ [⟨x.at_,x.many+l[k].many⟩] 1 rfl xp (by have:=congrArg List.length hw;simp only [List.length_append,List.length_take,List.length_drop,List.length_cons,List.length_nil] at this;omega)
    rw [hw] at bL
    refine gc bL ?_
    rintro _ _ ⟨rfl,A',dX,rfl⟩
    obtain ⟨ba,c',D',eo,rfl⟩:=dX
    refine gs ?_
    refine gz ?_
    exact fin ⟨rfl,_,⟨ba,c',D',eo,rfl⟩,rfl⟩ aa
   ·have w5:¬l[k].at_=x.fin:=by simpa using w5
    refine gm ?_;intro iy
    have hw:=wN hG.gd hm hk (fun q=>xP q.1) xh (fun q=>w5 q.2)
    have xp:Rd [(iy,av [.int .i64 x.at_,.int .i64 (x.many)] 150)] 2 (.slice (some ⟨iy,0,none⟩) 1 1) 1 [.int .i64 x.at_,.int .i64 (x.many)]:=aw rfl (by simp [Value.oneCell']) oZ _
    have bL:=gY p l mn _ c D hD xm (k) (k) oZ _ _ _ [x] 1 rfl xp (by have:=congrArg List.length hw;simp only [List.length_append,List.length_take,List.length_drop,List.length_cons,List.length_nil] at this;omega)
    rw [hw] at bL
    refine gc bL ?_
    rintro _ _ ⟨rfl,A',dX,rfl⟩
    obtain ⟨ba,c',D',eo,rfl⟩:=dX
    refine gs ?_
    refine gz ?_
    exact fin ⟨rfl,_,⟨ba,c',D',eo,rfl⟩,rfl⟩ aa
  ·have rZ:¬k<l.length:=by omega
   refine gm ?_;intro iy
   have hw:=wN hG.gd hm hk (fun q=>xP q.1) xh (fun q=>rZ q.1)
   have xp:Rd [(iy,av [.int .i64 x.at_,.int .i64 (x.many)] 150)] 2 (.slice (some ⟨iy,0,none⟩) 1 1) 1 [.int .i64 x.at_,.int .i64 (x.many)]:=aw rfl (by simp [Value.oneCell']) oZ _
   have bL:=gY p l mn _ c D hD xm (k) (k) oZ _ _ _ [x] 1 rfl xp (by have:=congrArg List.length hw;simp only [List.length_append,List.length_take,List.length_drop,List.length_cons,List.length_nil] at this;omega)
   rw [hw] at bL
   refine gc bL ?_
   rintro _ _ ⟨rfl,A',dX,rfl⟩
   obtain ⟨ba,c',D',eo,rfl⟩:=dX
   refine gs ?_
   refine gz ?_
   exact fin ⟨rfl,_,⟨ba,c',D',eo,rfl⟩,rfl⟩ aa
def Dh (p:Nat)(s m:Int)(D:List Nat)(A:Chunk):Prop:=∃l,Fg s m D l/\LX p l (cw l) A
def Fh (p:Nat)(s m:Int)(W:List Nat)(A:Chunk):Prop:=∃l,LZ s m W l/\LX p l (cw l) A
theorem Ct.post {g:FuncId}{args:List Value}{As:List Chunk}{P Q:Value->List Chunk->Prop}(h:Ct g args As P)(k:∀u Bs,P u Bs->Q u Bs):Ct g args As Q:=h.imp k
section
variable (p:Nat)(s m:Int)(hm:8<=m)(hs:s<=10240)(k:Nat)(hk:(k+1:Int)*m<=s)(A:Chunk)
include hm hs hk
theorem Di (D:List Nat)(hA:Dh p s m D A)(hd:k∉D):Ct 105 [ptr p,(kK m k).agg] [A] fun u Bs=>u = .int .i64 0/\∃A',Dh p s m (k :: D) A'/\Bs=[A']:=by
 obtain ⟨l,hl,hA⟩:=hA
 obtain ⟨h1,h2⟩:=hl.take hm hs hk hd
 obtain ⟨h3,h4⟩:=z6 h1
 refine (OO p l _ A hA (hl.LW hm hs) (kK m k) h3 h4 (tv hl.gd)).post fun u Bs => ?_
 rintro ⟨rfl,A',dX,rfl⟩
 rw [<-rA hl.gd h1] at dX
 rw [<-tA h1] at dX
 exact ⟨rfl,A',⟨_,h2,dX⟩,rfl⟩
theorem OR (D:List Nat)(hA:Dh p s m D A)(hd:k∈D):Ct 146 [ptr p,(kK m k).agg] [A] fun u Bs=>u = .int .i64 0/\∃A',Dh p s m (D.filter fun j=>j != k) A'/\Bs=[A']:=by
 obtain ⟨l,hl,hA⟩:=hA
 obtain ⟨h1,h2⟩:=hl.back hm hs hk hd
 obtain ⟨h3,h4,h5⟩:=zZ h1
 refine (Gz p l _ A hA (hl.LW hm hs) (kK m k) h3 h4 h5 (tv hl.gd)).post fun u Bs => ?_
 rintro ⟨rfl,A',dX,rfl⟩
 rw [<-rz hl.gd h1] at dX
 rw [<-tw h1] at dX
 exact ⟨rfl,A',⟨_,h2,dX⟩,rfl⟩
theorem TJ (W:List Nat)(hA:Fh p s m W A)(hd:k∉W):Ct 146 [ptr p,(kK m k).agg] [A] fun u Bs=>u = .int .i64 0/\∃A',Fh p s m (W++[k]) A'/\Bs=[A']:=by
 obtain ⟨l,hl,hA⟩:=hA
 obtain ⟨h1,h2⟩:=hl.add hm hs hk hd
 obtain ⟨h3,h4,h5⟩:=zZ h1
 refine (Gz p l _ A hA (hl.LW hm hs) (kK m k) h3 h4 h5 (tv hl.gd)).post fun u Bs => ?_
 rintro ⟨rfl,A',dX,rfl⟩
 rw [<-rz hl.gd h1] at dX
 rw [<-tw h1] at dX
 exact ⟨rfl,A',⟨_,h2,dX⟩,rfl⟩
theorem TK (W:List Nat)(hA:Fh p s m W A)(hd:k∈W):Ct 105 [ptr p,(kK m k).agg] [A] fun u Bs=>u = .int .i64 0/\∃A',Fh p s m (W.filter fun j=>j != k) A'/\Bs=[A']:=by
 obtain ⟨l,hl,hA⟩:=hA
 obtain ⟨h1,h2⟩:=hl.rem hm hs hk hd
 obtain ⟨h3,h4⟩:=z6 h1
 refine (OO p l _ A hA (hl.LW hm hs) (kK m k) h3 h4 (tv hl.gd)).post fun u Bs => ?_
 rintro ⟨rfl,A',dX,rfl⟩
 rw [<-rA hl.gd h1] at dX
 rw [<-tA h1] at dX
 exact ⟨rfl,A',⟨_,h2,dX⟩,rfl⟩
theorem Kp (D:List Nat)(hA:Dh p s m D A)(hd:k∈D):Ct 205 [ptr p,(kK m k).agg] [A] fun u Bs=>u = .bool false/\Bs=[A]:=by
 obtain ⟨l,hl,hA⟩:=hA
 have h0:=jv hm hs hk
 have:=vC p l _ A hA (hl.LW hm hs) (kK m k) (by have:=Sp.ax.1 h0.1;omega)
 rwa [hl.meets hm hs hk hd] at this
theorem Kq (W:List Nat)(hA:Fh p s m W A)(hd:k∉W):Ct 205 [ptr p,(kK m k).agg] [A] fun u Bs=>u = .bool false/\Bs=[A]:=by
 obtain ⟨l,hl,hA⟩:=hA
 have h0:=jv hm hs hk
 have:=vC p l _ A hA (hl.LW hm hs) (kK m k) (by have:=Sp.ax.1 h0.1;omega)
 rwa [hl.meets hm hs hk hd] at this
end
theorem OS (p:Nat)(s m:Int)(hm:8<=m/\m<=1000)(hs:s<=10240)(A:Chunk)(D:List Nat)(hA:Dh p s m D A)(hd:∃k:Nat,k∉D/\(k+1:Int)*m<=s) :
  Ct 289 [ptr p,.int .i64 m,.int .i64 0] [A] fun u Bs=>∃k:Nat,k∉D/\(k+1:Int)*m<=s/\u = .tuple #[.int .i64 (k*m),.bool true]/\Bs=[A]:=by
 obtain ⟨l,hl,hA⟩:=hA
 obtain ⟨j,hj,hjs⟩:=hd
 refine (TE p l _ m 0 A hA (hl.LW hm.1 hs) oZ oZ).post fun u Bs => ?_
 rintro ⟨rfl,rfl⟩
 have hf:=hl.found hm.1 hs hjs hj
 obtain ⟨k,h1,h2,h3⟩:=hl.find hm.1 hs (a:=(gG l m 0).1) (by rw [<-hf])
 exact ⟨k,h3,h2,by rw [hf,h1],rfl⟩
theorem Dj (s:Int)(hs:1<=s/\s<=10240):Ct 102 [.int .i64 s] [] fun u Bs=>∃p A,u=ptr p/\LX p (fV s) (cw (fV s)) A/\Bs=[A]:=by
 have hp:(0:Int)<s:=by omega
 refine st Tryz.func102 fun w0 => ?_
 refine gc OH ?_
 rintro _ _ ⟨p,A,rfl,hA,rfl⟩
 have h1:bM [] (⟨0,s⟩:Sp) false=fV s:=by simp [bM,fV,hp]
 have h2:cw (fV s)=0+s:=by simp [fV,hp,cw]
 have Gw:=Gz p [] 0 A hA TH ⟨0,s⟩ (by rw [Sp.ax];simp only;omega) (by simp [eb,kJ]) (by rw [h1];simp [fV,hp]) oZ
 rw [h1,<-h2] at Gw
 refine gc Gw ?_
 rintro _ _ ⟨rfl,A',dX,rfl⟩
 refine gz ?_
 exact fin ⟨p,A',rfl,dX,rfl⟩ aa
theorem Ks (s m:Int)(hs:1<=s/\s<=10240):Ct 102 [.int .i64 s] [] fun u Bs=>∃p A,u=ptr p/\Dh p s m [] A/\Bs=[A] :=
 (Dj s hs).post fun u Bs=>by
  rintro ⟨p,A,rfl,hA,rfl⟩
  exact ⟨p,A,rfl,⟨_,Km hs.2,hA⟩,rfl⟩
theorem TL (s m:Int):Ct 103 [] [] fun u Bs=>∃p A,u=ptr p/\Fh p s m [] A/\Bs=[A] :=
 OH.post fun u Bs=>by
  rintro ⟨p,A,rfl,hA,rfl⟩
  exact ⟨p,A,rfl,⟨_,Kn,hA⟩,rfl⟩
theorem YS (v:Value)(O:Chunk)(x:Int)(hO:Rd O 1 v 1 [.int .i64 x]):Ct 283 [v] [O] fun u Bs=>u = .int .i64 x/\Bs=[O]:=by
 obtain ⟨ad,c,rfl⟩:=hO.slice
 obtain ⟨g,o,rfl⟩:=hO.addr oZ
 refine st Tryz.func283 fun w0 => ?_
 refine gl [0] (fun (_:Nat)=>[(3,.int .i64 x),(4,.int .i64 1)]) (fun _=>[]) (fun _=>True) (fun _=>0) 0 True.intro ?_
 rintro n -
 refine gz ?_
 exact fin ⟨rfl,rfl⟩ aa
theorem YT (v:Value)(O:Chunk)(x:Int)(hO:Rd O 1 v 1 [.int .i64 x]):Ct 284 [v] [O] fun u Bs=>u = .int .i64 x/\Bs=[O]:=by
 obtain ⟨ad,c,rfl⟩:=hO.slice
 obtain ⟨g,o,rfl⟩:=hO.addr oZ
 refine st Tryz.func284 fun w0 => ?_
 refine gl [0] (fun (_:Nat)=>[(3,.int .i64 x),(4,.int .i64 1)]) (fun _=>[]) (fun _=>True) (fun _=>0) 0 True.intro ?_
 rintro n -
 refine gz ?_
 exact fin ⟨rfl,rfl⟩ aa
end Go.Proofs.YtcfioaeamfappaaGreatDoor
namespace Go.Sl
def Ku (m:Int)(ks:List Nat):List Pl:=ks.map fun k=>⟨0,kK m k⟩
theorem OT {m:Int}{ks:List Nat}{i k:Nat}(h:ks[i]? = some k):(Ku m ks)[i]? = some ⟨0,kK m k⟩:=by simp [Ku,h]
end Go.Sl
namespace Go.Proofs.YtcfioaeamfappaaGreatDoor
open Go.Sl
set_option maxRecDepth 10000
set_option maxHeartbeats 4000000
theorem OU (vO vF:Value)(O:Chunk):Ct 296 [vO,.int .i64 0,.int .i64 1,vF] [O] fun _ Bs=>Bs=[O]:=by
 refine st Tryz.func296 fun w0 => ?_
 refine gl [0,1,2,3] (fun (_:Nat)=>[(8,.int .i64 1)]) (fun _=>[]) (fun _=>True) (fun _=>0) 0 True.intro ?_
 rintro n -
 refine gz ?_
 exact fin rfl aa
theorem TM (vO vF:Value)(O:Chunk):Ct 294 [vO,.int .i64 1,vF] [O] fun _ Bs=>Bs=[O]:=by
 have h0:=OU vO vF O
 refine st Tryz.func294 fun w0 => ?_
 refine gl [0,1,2] (fun (_:Nat)=>[(6,.int .i64 20),(7,.int .i64 0),(8,.int .i64 20)]) (fun _=>[]) (fun _=>True) (fun _=>0) 0 True.intro ?_
 rintro n -
 refine gc h0 ?_
 rintro _ _ rfl
 refine gl [0,1,2] (fun (_:Nat)=>[(6,.int .i64 20)]) (fun _=>[]) (fun _=>True) (fun _=>0) 0 True.intro ?_
 rintro n2 -
 refine gz ?_
 exact fin rfl aa
theorem OV (ad:Option Addr)(c:Nat)(vF:Value)(O:Chunk):Ct 285 [.slice ad 1 c,vF] [O] fun _ Bs=>Bs=[O]:=by
 have h0:=TM (.slice ad 1 c) vF O
 refine st Tryz.func285 fun w0 => ?_
 refine gc h0 ?_
 rintro _ _ rfl
 refine gz ?_
 exact fin rfl aa
theorem OW (ad:Option Addr)(c:Nat)(O:Chunk)(s:Int)(hs:0<=s/\s<=40960)(hO:Rd O 1 (.slice ad 1 c) 1 [.int .i64 s]):Ct 100 [.slice ad 1 c,.func (.func 99) #[] #[]] [O] fun u Bs=>u = .bool false/\Bs=[O]:=by
 obtain ⟨g,o,rfl⟩:=hO.addr oZ
 refine st Tryz.func100 fun w0 => ?_
 refine ge ?_
 refine gl [0,1,6,7] (fun (i:Nat)=>[(8,.int .i64 i)]) (fun _=>[]) (fun i=>i<=1) (fun i=>1 - i) 0 oZ ?_
 rintro i hi
 refine gi ?_ ?_ <;> intro bh
 ·obtain rfl:i=0:=by omega
  refine ge ?_
  refine gn ?_
  exact ⟨1,by omega,by omega,aq,_,aa⟩
 ·refine gz ?_
  exact fin ⟨rfl,rfl⟩ aa
theorem GA (D:Chunk)(ad:Option Addr)(m c:Nat)(xs:List Value)(hR:Rd D 1 (.slice ad m c) m xs)(hm:1<=m/\m<=1000):Ct 101 [.slice ad m c] [D] fun u Bs=>∃ba c' D',u = .slice ba m c'/\az D' 3 1 (.slice ba m c') m xs/\Bs=[D',D]:=by
 obtain ⟨g,o,rfl⟩:=hR.addr oZ
 refine st Tryz.func101 fun w0 => ?_
 refine gm ?_;intro b
 have hB:az [(b,av [] 3)] 3 1 (.slice (some ⟨b,0,none⟩) 0 0) 0 []:=⟨rfl,by simp,.inr ⟨b,0,[],rfl,rfl,by omega,by simp [maxLen],rfl⟩⟩
 refine gp ?_;intro ba c' C' bA
 rw [Nat.zero_add,List.nil_append] at bA
 refine gz ?_
 exact fin ⟨ba,c',C',by rw [Nat.zero_add],bA,rfl⟩ aa
abbrev RI (vS vF vW vM:Value):Obj:=av [vS,vF,vW,vM] 191
def Fi (m:Int):List (Int×Value)->List (Int×List Nat)->Chunk->Prop
 | [],[],V=>V=[]
 | (q,v) :: L,(g,ks) :: M,V=>q=g/\∃D V',az D 152 3 v ks.length ((Ku m ks).flatMap Pl.lay)/\Fi m L M V'/\V=D++V'
 | _,_,_=>False
def oN (p:Nat)(s m:Int)(a:Rm)(A:Chunk):Prop:=∃bG cS DS Bb cF DF Bc cW DW pf pw r L CF CW CM V,
 az DS 3 1 (.slice bG 1 cS) 1 [.int .i64 s]/\az DF 192 1 (.slice Bb 1 cF) 1 [ptr pf]/\az DW 192 1 (.slice Bc 1 cW) 1 [ptr pw] /\
 Dh pf s m a.D CF/\Fh pw s m a.W CW/\Mp r .u64 L CM/\Fi m L a.fB V /\
 A=[(p,RI (.slice bG 1 cS) (.slice Bb 1 cF) (.slice Bc 1 cW) (.map (some r)))]++(DS++(DF++(DW++(CF++(CW++(CM++V))))))
section
variable (p:Nat)(s m:Int)(hm:8<=m/\m<=1000)(hs:1<=s/\s<=10240)(k:Nat)(hk:(k+1:Int)*m<=s)(D W:List Nat)
variable (bG:Option Addr)(cS:Nat)(DS:Chunk)(Bb:Option Addr)(cF:Nat)(DF:Chunk)(Bc:Option Addr)(cW:Nat)(DW:Chunk)(pf pw r:Nat)(CF CW:Chunk)
variable (hS:az DS 3 1 (.slice bG 1 cS) 1 [.int .i64 s])(hF:az DF 192 1 (.slice Bb 1 cF) 1 [ptr pf])(hW:az DW 192 1 (.slice Bc 1 cW) 1 [ptr pw])(qH:Dh pf s m D CF)(vK:Fh pw s m W CW)
theorem OX (vS vF vW vM:Value)(bG:Option Addr)(cS:Nat):Ct 104 [ptr p,.int .i64 0] [[(p,RI (.slice bG 1 cS) vF vW vM)]] fun u Bs=>u = .bool true/\Bs=[[(p,RI (.slice bG 1 cS) vF vW vM)]]:=by
 refine st Tryz.func104 fun w0 => ?_
 refine gz ?_
 exact fin ⟨rfl,rfl⟩ aa
include hm hs hk hS hF hW qH vK in
theorem TN (hD:k∈D)(hW':k∉W):Ct 268 [ptr p,.agg #[.int .i64 0,.int .i64 (k*m),.int .i64 m]] [[(p,RI (.slice bG 1 cS) (.slice Bb 1 cF) (.slice Bc 1 cW) (.map (some r)))],DS,DF,DW,CF,CW]
  fun u Bs=>u = .bool true/\Bs=[[(p,RI (.slice bG 1 cS) (.slice Bb 1 cF) (.slice Bc 1 cW) (.map (some r)))],DS,DF,DW,CF,CW]:=by
 have hSr:=hS.rd
 have OY:=hF.rd
 have hWr:=hW.rd
 obtain ⟨gS,oS,rfl⟩:=hSr.addr oZ
 obtain ⟨gF,oF,rfl⟩:=OY.addr oZ
 obtain ⟨gW,oW,rfl⟩:=hWr.addr oZ
 have h1:=OX p (.slice none 0 0) (.slice (some ⟨gF,oF,none⟩) 1 cF) (.slice (some ⟨gW,oW,none⟩) 1 cW) (.map (some r)) (some ⟨gS,oS,none⟩) cS
 have h3:=Kp pf s m hm.1 hs.2 k hk CF D qH hD
 have h4:=Kq pw s m hm.1 hs.2 k hk CW W vK hW'
 refine st Tryz.func268 fun w0 => ?_
 refine ga ?_;intro b3
 refine gd [0,4,8,13,16,20,24,28,32,36,40,44,48,52,56,60,64,68,72,76,84,88,81,95,98,102] ?_
 refine gc h1 ?_
 rintro _ _ ⟨rfl,rfl⟩
 refine gc (Dj s hs) ?_
 rintro _ _ ⟨q,A,rfl,hA,rfl⟩
 have hx:=jv hm.1 hs.2 hk
 have h2:=OI q _ _ A hA (Kl oZ) (kK m k) (by have:=Sp.ax.1 hx.1;omega)
 rw [Ko hm.1 hs.2 hk] at h2
 refine gc h2 ?_
 rintro _ _ ⟨rfl,rfl⟩
 refine gd [0,4,8,12,16,20,24,28,32,36,41,44,48,52,56,60,64,68,72,76,80,84,88,95,98,102,106] ?_
 refine gc h3 ?_
 rintro _ _ ⟨rfl,rfl⟩
 refine gc h4 ?_
 rintro _ _ ⟨rfl,rfl⟩
 refine gz ?_
 exact fin ⟨rfl,rfl⟩ aa
end
end Go.Proofs.YtcfioaeamfappaaGreatDoor
namespace Go.Sl
theorem pT:∀(N:Nat) (l:List Nat),l.Nodup->(∀k∈l,k<N)->l.length<=N
 | 0,l,_,h=>by
  cases l with
  | nil=>simp
  | cons x r=>exact absurd (h x (List.mem_cons_self ..)) oZ
 | N+1,l,hn,h=>by
  have h1:=pT N (l.erase N) (hn.erase N) fun k hk=>by
   have h2:=(hn.mem_erase_iff).1 hk
   have:=h k h2.2
   omega
  have h3:l.length<=(l.erase N).length+1:=by
   by_cases c:N∈l
   ·rw [List.length_erase_of_mem c];omega
   ·rw [List.erase_of_not_mem c];omega
  omega
theorem Rm.Ok.lt {s m:Int}{a:Rm}(h:a.Ok s m)(hm:8<=m)(hs:s<=10240){k:Nat}(hk:k∈a.D):k<1280:=by
 have:=h.dl k hk
 have h2:=Int.mul_le_mul_of_nonneg_left hm (show (0:Int)<=k+1 by omega)
 omega
theorem Rm.Ok.abi {s m:Int}{a:Rm}(h:a.Ok s m)(hm:8<=m)(hs:s<=10240){g:Int×List Nat}(hg:g∈a.fB):g.2.length<=1280:=by
 obtain ⟨X,Y,hXY⟩:=List.append_of_mem hg
 have hn:=h.wn
 have j3:g.2.Sublist a.W:=by
  unfold Rm.W;rw [hXY,List.flatMap_append,List.flatMap_cons]
  exact (List.sublist_append_left _ _).trans (List.sublist_append_right _ _)
 exact pT 1280 g.2 (j3.nodup hn) fun k hk=>h.lt hm hs (h.wd k (j3.subset hk))
theorem Ab:∀(l:List (Int×List Nat)) (g:Int) (k:Nat),((lY l g k).flatMap (·.2)).Perm (l.flatMap (·.2)++[k])
 | [],g,k=>by simp [lY]
 | (j,l) :: r,g,k=>by
  unfold lY
  split
  ·simp only [List.flatMap_cons,List.append_assoc]
   exact List.Perm.append_left l (List.perm_append_comm)
  ·simp only [List.flatMap_cons,List.append_assoc]
   exact List.Perm.append_left l (Ab r g k)
theorem Rm.TO {s m:Int}{a:Rm}(h:a.Ok s m)(g:Int){k:Nat}(hD:k∈a.D)(hW:k∉a.W):(a.free g k).Ok s m:=by
 have hp:=Ab a.fB g k
 refine ⟨h.dl, ?_,fun j hj => ?_⟩
 ·refine hp.nodup_iff.2 ?_
  rw [List.nodup_append]
  exact ⟨h.wn,by simp,fun x hx y hy=>by rw [List.mem_singleton.1 hy];rintro rfl;exact hW hx⟩
 ·rcases List.mem_append.1 (hp.mem_iff.1 hj) with q | q
  ·exact h.wd j q
  ·rw [List.mem_singleton.1 q];exact hD
end Go.Sl
namespace Go.Proofs.YtcfioaeamfappaaGreatDoor
open Go.Sl
set_option maxRecDepth 10000
set_option maxHeartbeats 4000000
theorem Dh.congr {p:Nat}{s m:Int}{D D':List Nat}{A:Chunk}(h:Dh p s m D A)(hd:∀k,k∈D↔k∈D'):Dh p s m D' A:=by
 obtain ⟨l,h1,h2⟩:=h
 exact ⟨l,h1.congr fun n=>by simp only [YP,hd],h2⟩
theorem Fh.congr {p:Nat}{s m:Int}{W W':List Nat}{A:Chunk}(h:Fh p s m W A)(hd:∀k,k∈W↔k∈W'):Fh p s m W' A:=by
 obtain ⟨l,h1,h2⟩:=h
 exact ⟨l,h1.congr fun n=>by simp only [YQ,hd],h2⟩
abbrev OZ (D:Chunk)(v:Value)(m:Int)(ks:List Nat):Prop:=az D 152 3 v ks.length ((Ku m ks).flatMap Pl.lay)
theorem Fi.split {m:Int}(g:Int)(k:Nat):∀ {L:List (Int×Value)} {M:List (Int×List Nat)} {V:Chunk},Fi m L M V ->
  (jP L g=none/\∀v D,OZ D v m [k]->Fi m (gJ L g v) (lY M g k) (V++D)) \/
  ∃v V1 D V2 ks,jP L g=some v/\(g,ks)∈M/\V=V1++(D++V2)/\OZ D v m ks/\∀v' D',OZ D' v' m (ks++[k])->Fi m (gJ L g v') (lY M g k) (V1++(D'++V2))
 | [],[],V,h=>.inl ⟨rfl,fun v D hD=>by obtain rfl:V=[]:=h;exact ⟨rfl,D,[],hD,rfl,by simp⟩⟩
 | [],_ :: _,V,h=>h.elim
 | _ :: _,[],V,h=>h.elim
 | (q,v) :: L,(j,ks) :: M,V,h=>by
  obtain ⟨rfl,D,V',hD,hV,rfl⟩:=h
  by_cases c:q=g
  ·subst c
   refine .inr ⟨v,[],D,V',ks,by simp [jP],List.mem_cons_self ..,rfl,hD,fun v' D' eo => ?_⟩
   simp only [gJ,lY,if_pos]
   exact ⟨rfl,D',V',eo,hV,rfl⟩
  ·rcases Fi.split g k hV with ⟨h1,h2⟩ | ⟨u,V1,E,V2,ls,h1,h0,rfl,h3,h4⟩
   ·refine .inl ⟨by simpa [jP,c] using h1,fun v' D' eo => ?_⟩
    simp only [gJ,lY,if_neg c]
    exact ⟨rfl,D,V'++D',hD,h2 v' D' eo,by rw [List.append_assoc]⟩
   ·refine .inr ⟨u,D++V1,E,V2,ls,by simpa [jP,c] using h1,List.mem_cons_of_mem _ h0,by rw [List.append_assoc],h3,fun v' D' eo => ?_⟩
    simp only [gJ,lY,if_neg c]
    exact ⟨rfl,D,_,hD,h4 v' D' eo,by rw [List.append_assoc]⟩
theorem Fi.keys {m:Int}:∀ {L:List (Int×Value)} {M:List (Int×List Nat)} {V:Chunk},Fi m L M V->M.map (·.1)=L.map (·.1)
 | [],[],_,_=>rfl
 | [],_ :: _,_,h=>h.elim
 | _ :: _,[],_,h=>h.elim
 | (q,v) :: L,(j,ks) :: M,V,h=>by
  obtain ⟨rfl,D,V',hD,hV,rfl⟩:=h
  simp only [List.map_cons,hV.keys]
theorem Fi.cut {m:Int}{q:Int}{v:Value}:∀ {L:List (Int×Value)} {M:List (Int×List Nat)} {V:Chunk},Fi m L M V->(L.map (·.1)).Nodup->jP L q=some v ->
  ∃ks V1 D V2,(q,ks)∈M/\V=V1++(D++V2)/\OZ D v m ks/\Fi m (ir L q) (M.filter fun g=>g.1 != q) (V1++V2)
 | [],_,V,_,_,hl=>by simp [jP] at hl
 | _ :: _,[],V,h,_,_=>h.elim
 | (p,u) :: L,(j,ks) :: M,V,h,hn,hl=>by
  obtain ⟨rfl,D,V',hD,hV,rfl⟩:=h
  rw [List.map_cons,List.nodup_cons] at hn
  by_cases c:p=q
  ·subst c
   have e:u=v:=by simpa [jP] using hl
   subst e
   refine ⟨ks,[],D,V',List.mem_cons_self ..,rfl,hD, ?_⟩
   have h1:ir ((p,u) :: L) p=L:=by
    simp only [ir,List.filter_cons,bne_self_eq_false,Bool.false_eq_true,if_false]
    rw [List.filter_eq_self];intro e he;simpa using fun h':e.1=p=>hn.1 (by rw [<-h'];exact List.mem_map_of_mem (f:=(·.1)) he)
   have h2:((p,ks) :: M).filter (fun g=>g.1 != p)=M:=by
    simp only [List.filter_cons,bne_self_eq_false,Bool.false_eq_true,if_false]
    rw [List.filter_eq_self];intro e he;simpa using fun h':e.1=p=>hn.1 (by rw [<-hV.keys,<-h'];exact List.mem_map_of_mem (f:=(·.1)) he)
   rw [h1,h2];exact hV
  ·obtain ⟨ls,V1,E,V2,h1,rfl,h3,h4⟩:=Fi.cut hV hn.2 (by simpa [jP,c] using hl)
   refine ⟨ls,D++V1,E,V2,List.mem_cons_of_mem _ h1,by rw [List.append_assoc],h3, ?_⟩
   have e1:ir ((p,u) :: L) q=(p,u) :: ir L q:=by simp [ir,c]
   have e2:((p,ks) :: M).filter (fun g=>g.1 != q)=(p,ks) :: M.filter (fun g=>g.1 != q):=by simp [c]
   rw [e1,e2]
   exact ⟨rfl,D,_,hD,h4,by rw [List.append_assoc]⟩
section
variable (p:Nat)(s m:Int)(hm:8<=m/\m<=1000)(hs:1<=s/\s<=10240)(a:Rm)(ha:a.Ok s m)(A:Chunk)(hA:oN p s m a A)
include hm hs ha hA
theorem TP (g k:Nat)(hD:k∈a.D)(hW:k∉a.W):Ct 221 [ptr p,.agg #[.int .i64 0,.int .i64 (k*m),.int .i64 m],.int .u64 g] [A] fun u Bs=>u = .int .i64 0/\∃A',oN p s m (a.free g k) A'/\Bs=[A']:=by
 obtain ⟨bG,cS,DS,Bb,cF,DF,Bc,cW,DW,pf,pw,r,L,CF,CW,CM,V,hS,hF,Wl,qH,vK,hM,hG,rfl⟩:=hA
 have hk:=ha.dl k hD
 have Wm:=TN p s m hm hs k hk a.D a.W bG cS DS Bb cF DF Bc cW DW pf pw r CF CW hS hF Wl qH vK hD hW
 have Gw:=TJ pw s m hm.1 hs.2 k hk CW a.W vK hW
 have hWr:=Wl.rd
 obtain ⟨gW,oW,rfl⟩:=hWr.addr oZ
 have pq:∀ {L' CM' V' CW'},Mp r .u64 L' CM'->Fi m L' (lY a.fB g k) V'->Fh pw s m (a.W++[k]) CW'->oN p s m (a.free g k) ([(p,RI (.slice bG 1 cS) (.slice Bb 1 cF) (.slice (some ⟨gW,oW,none⟩) 1 cW) (.map (some r)))]++(DS++(DF++(DW++(CF++(CW'++(CM'++V'))))))) :=
  fun h1 h2 h3=>⟨bG,cS,DS,Bb,cF,DF,_,cW,DW,pf,pw,r,_,CF,_,_,_,hS,hF,Wl,qH,h3.congr fun j=>(Ab a.fB g k).mem_iff.symm,h1,h2,rfl⟩
 have hB1:∀b0,Rd [(b0,av (Pl.lay ⟨0,kK m k⟩) 152)] 3 (.slice (some ⟨b0,0,none⟩) 1 1) 1 (Pl.lay ⟨0,kK m k⟩):=fun b0=>aw rfl (by simp [Pl.lay,Value.oneCell']) oZ _
 rcases hG.split g k with ⟨hl,O0⟩ | ⟨v,V1,D,V2,ks,hl,jC,rfl,A7,O0⟩
 ·refine st Tryz.func221 fun w0 => ?_
  refine gs ?_
  refine ga ?_;intro b4
  refine gc Wm ?_
  rintro _ _ ⟨rfl,rfl⟩
  refine gc Gw ?_
  rintro _ _ ⟨rfl,CW',O1,rfl⟩
  refine gd [0,4,8,12,16,20,24,28,32,36,40,44,49,53,59] ?_
  refine gm ?_;intro b0
  refine gp ?_;intro ad c C hC
  refine gu ?_;intro C' bA
  refine gz ?_
  exact fin ⟨rfl,_,pq bA (O0 _ C hC) O1,rfl⟩ aa
 ·have lV:ks.length<=1280:=ha.abi hm.1 hs.2 jC
  clear jC
  obtain ⟨Ry,c0,rfl⟩:=A7.slice
  refine st Tryz.func221 fun w0 => ?_
  refine gs ?_
  refine ga ?_;intro b4
  refine gc Wm ?_
  rintro _ _ ⟨rfl,rfl⟩
  refine gc Gw ?_
  rintro _ _ ⟨rfl,CW',O1,rfl⟩
  refine qC [[(p,RI (.slice bG 1 cS) (.slice Bb 1 cF) (.slice (some ⟨gW,oW,none⟩) 1 cW) (.map (some r)))],[(b4,av [.int .i64 0,.int .i64 (k*m),.int .i64 m] 152)],CM] [0,4,8,12,16,20,24,28,32,36,40,44,49,53,59] ?_
  refine gm ?_;intro b0
  refine gp ?_;intro ad c C hC
  refine gu ?_;intro C' bA
  refine gz ?_
  exact fin ⟨rfl,_,pq bA (O0 _ C (by simpa [OZ,Ku,Pl.lay,kK] using hC)) O1,rfl⟩ aa
end
end Go.Proofs.YtcfioaeamfappaaGreatDoor
namespace Go.Sl
def kL (t:Int)(rest:List Int)(g:Int×List Nat):Bool:=!jF t g.1||rest.contains g.1
def Fj (t:Int)(rest:List Int)(a:Rm):List (Int×List Nat):=a.fB.filter (kL t rest)
def iz (t:Int)(rest:List Int)(a:Rm):List Nat:=(a.fB.filter fun g => !kL t rest g).flatMap (·.2)
theorem xZ.nodup {r it:Nat}{k:IntKind}{L rest:List (Int×Value)}{C D:Chunk}(h:xZ r it k L rest C D):(rest.map (·.1)).Nodup/\∀q∈rest.map (·.1),q∈L.map (·.1):=by
 obtain ⟨Ms,clock,since,seen,last,rfl,nD, -, -, -, -, -,rfl⟩:=h
 rw [List.map_map,List.map_map]
 refine ⟨(List.filter_sublist.map _).nodup nD.nk,fun q hq => ?_⟩
 obtain ⟨z,hz,rfl⟩:=List.mem_map.1 hq
 exact List.mem_map_of_mem (List.mem_filter.1 hz).1
theorem vN {L:List (Int×Value)}{q:Int}(h:q∉L.map (·.1)):ir L q=L:=by
 unfold ir
 rw [List.filter_eq_self]
 intro e he;simpa using fun h':e.1=q=>h (by rw [<-h'];exact List.mem_map_of_mem (f:=(·.1)) he)
section
variable {t:Int}{a:Rm}{X Y:List Int}{q:Int}
theorem IA (h:jF t q=false)(g:Int×List Nat):kL t (X++q :: Y) g=kL t (X++Y) g:=by
 unfold kL
 by_cases c:g.1=q
 ·rw [c,h];rfl
 ·congr 1
  simp [c]
theorem YU (h:jF t q=false):Fj t (X++q :: Y) a=Fj t (X++Y) a:=List.filter_congr fun g _=>IA h g
theorem O3 (h:jF t q=false):iz t (X++q :: Y) a=iz t (X++Y) a:=by
 unfold iz
 rw [show (fun g => !kL t (X++q :: Y) g)=fun g => !kL t (X++Y) g from funext fun g=>by rw [IA h g]]
theorem IB (h:jF t q=true)(hn:q∉X++Y):(Fj t (X++q :: Y) a).filter (fun g=>g.1 != q)=Fj t (X++Y) a:=by
 unfold Fj
 rw [List.filter_filter]
 refine List.filter_congr fun g _ => ?_
 unfold kL
 by_cases c:g.1=q
 ·rw [c,h]
  have:(X++Y).contains q=false:=by simpa using hn
  rw [this];simp
 ·have e1:(g.1 != q)=true:=by simp [c]
  rw [e1,Bool.true_and]
  congr 1
  simp [c]
theorem vR {k:Nat}:k∈iz t X a↔∃g∈a.fB,jF t g.1=true/\g.1∉X/\k∈g.2:=by
 simp only [iz,List.mem_flatMap,List.mem_filter,kL,Bool.not_or,Bool.not_not,Bool.and_eq_true,Bool.not_eq_true',List.contains_eq_mem,decide_eq_false_iff_not]
 constructor
 ·rintro ⟨g,⟨h1,h2,h3⟩,h4⟩;exact ⟨g,h1,h2,h3,h4⟩
 ·rintro ⟨g,h1,h2,h3,h4⟩;exact ⟨g,⟨h1,h2,h3⟩,h4⟩
theorem Ac {k:Nat}{ks:List Nat}(h:jF t q=true)(hn:q∉X++Y)(hq:(q,ks)∈a.fB)(hu:∀g∈a.fB,g.1=q->g=(q,ks)):k∈iz t (X++Y) a↔k∈iz t (X++q :: Y) a\/k∈ks:=by
 rw [vR,vR]
 constructor
 ·rintro ⟨g,h1,h2,h3,h4⟩
  by_cases c:g.1=q
  ·rw [hu g h1 c] at h4;exact .inr h4
  ·exact .inl ⟨g,h1,h2,by simp only [List.mem_append,List.mem_cons,not_or] at h3 ⊢;exact ⟨h3.1,c,h3.2⟩,h4⟩
 ·rintro (⟨g,h1,h2,h3,h4⟩ | h4)
  ·exact ⟨g,h1,h2,by simp only [List.mem_append,List.mem_cons,not_or] at h3 ⊢;exact ⟨h3.1,h3.2.2⟩,h4⟩
  ·exact ⟨(q,ks),hq,h,hn,h4⟩
end
theorem Rm.Ok.one {s m:Int}{a:Rm}(h:a.Ok s m){g j:Int×List Nat}{k:Nat}(hg:g∈a.fB)(hj:j∈a.fB)(h1:k∈g.2)(h2:k∈j.2):g=j:=by
 obtain ⟨X,Y,e⟩:=List.append_of_mem hg
 have hn:=h.wn
 unfold Rm.W at hn
 rw [e,List.flatMap_append,List.flatMap_cons,List.nodup_append] at hn
 obtain ⟨-,dx,hn3⟩:=hn
 rw [List.nodup_append] at dx
 obtain ⟨-, -,hn4⟩:=dx
 rw [e] at hj
 rcases List.mem_append.1 hj with hj | hj
 ·exact absurd rfl (hn3 k (List.mem_flatMap.2 ⟨j,hj,h2⟩) k (List.mem_append_left _ h1))
 ·rcases List.mem_cons.1 hj with rfl | hj
  ·rfl
  ·exact absurd rfl (hn4 k h1 k (List.mem_flatMap.2 ⟨j,hj,h2⟩))
theorem Rm.Ok.nodup {s m:Int}{a:Rm}(h:a.Ok s m){g:Int×List Nat}(hg:g∈a.fB):g.2.Nodup:=by
 obtain ⟨X,Y,hXY⟩:=List.append_of_mem hg
 have j3:g.2.Sublist a.W:=by
  unfold Rm.W;rw [hXY,List.flatMap_append,List.flatMap_cons]
  exact (List.sublist_append_left _ _).trans (List.sublist_append_right _ _)
 exact j3.nodup h.wn
end Go.Sl
namespace Go.Proofs.YtcfioaeamfappaaGreatDoor
open Go.Sl
set_option maxRecDepth 10000
set_option maxHeartbeats 4000000
theorem TQ (p:Nat)(s m:Int)(hm:8<=m/\m<=1000)(hs:1<=s/\s<=10240)(a:Rm)(ha:a.Ok s m)(A:Chunk)(hA:oN p s m a A)(t:Nat)(ht:t<18446744073709551616) :
  Ct 222 [ptr p,.int .u64 t] [A] fun _ Bs=>∃A',oN p s m (a.sync t) A'/\Bs=[A']:=by
 obtain ⟨bG,cS,DS,Bb,cF,DF,Bc,cW,DW,pf,pw,r,L0,CF,CW,CM,V,hS,hF,Wl,qH,vK,hM,hG,rfl⟩:=hA
 have OY:=hF.rd
 have hWr:=Wl.rd
 obtain ⟨gF,oF,rfl⟩:=OY.addr oZ
 obtain ⟨gW,oW,rfl⟩:=hWr.addr oZ
 have mH:=hG.keys
 have ek:=hM.nodup
 have abj:∀g∈a.fB,∀q ks,(q,ks)∈a.fB->g.1=q->g=(q,ks):=fun g hg q ks hq e=>by
  rw [<-mH] at ek
  obtain ⟨X,Y,hXY⟩:=List.append_of_mem hq
  rw [hXY,List.map_append,List.map_cons,List.nodup_append,List.nodup_cons] at ek
  obtain ⟨-,⟨n2, -⟩,n3⟩:=ek
  rw [hXY] at hg
  rcases List.mem_append.1 hg with hg | hg
  ·exact absurd e (n3 _ (List.mem_map_of_mem hg) _ (List.mem_cons_self ..))
  ·rcases List.mem_cons.1 hg with rfl | hg
   ·rfl
   ·exact absurd (by rw [<-e];exact List.mem_map_of_mem (f:=(·.1)) hg) n2
 refine st Tryz.func222 fun w0 => ?_
 refine gs ?_
 refine gr ?_
 intro it DI hI
 refine gl [0,1,12] (fun (_:List (Int×Value)×List (Int×Value)×Chunk×Chunk×Chunk×Chunk×Chunk)=>[]) (fun (_,_,CF,CW,CM,DI,V)=>[[(p,RI (.slice bG 1 cS) (.slice (some ⟨gF,oF,none⟩) 1 cF) (.slice (some ⟨gW,oW,none⟩) 1 cW) (.map (some r)))],DF,DW,CF,CW,CM,DI,V]) (fun (L,rest,CF,CW,CM,DI,V)=>xZ r it .u64 L rest CM DI/\Fi m L (Fj t (rest.map (·.1)) a) V/\Dh pf s m (a.D.filter fun k => !(iz t (rest.map (·.1)) a).contains k) CF/\Fh pw s m ((Fj t (rest.map (·.1)) a).flatMap (·.2)) CW) (fun (_,rest,_)=>rest.length) (L0,L0,CF,CW,CM,DI,V) ?_ ?_
 ·have h1:Fj t (L0.map (·.1)) a=a.fB:=List.filter_eq_self.2 fun g hg=>by
   unfold kL
   have:(L0.map (·.1)).contains g.1=true:=by rw [<-mH];simpa using List.mem_map_of_mem (f:=(·.1)) hg
   rw [this,Bool.or_true]
  have h2:iz t (L0.map (·.1)) a=[]:=by
   unfold iz
   rw [List.filter_eq_nil_iff.2 fun g hg => ?_]; · rfl
   unfold kL
   have:(L0.map (·.1)).contains g.1=true:=by rw [<-mH];simpa using List.mem_map_of_mem (f:=(·.1)) hg
   rw [this,Bool.or_true];simp
  refine ⟨hI,by rw [h1];exact hG,qH.congr fun k=>by rw [h2];simp,by rw [h1];exact vK⟩
 ·clear hG qH vK hI hM ek mH
  rintro ⟨L,rest,CF,CW,CM,DI,V⟩ ⟨hI,hG,qH,vK⟩
  have hIn:=hI.nodup
  have hLn:=hI.mp.nodup
  refine Nl ?_ ?_
  ·rintro rfl
   refine gz ?_
   have e1:Fj t [] a=(a.sync t).fB:=List.filter_congr fun g _=>by simp [kL]
   have e2:∀k,k∈a.D.filter (fun k => !(iz t [] a).contains k)↔k∈(a.sync t).D:=fun k=>by
    simp only [Rm.sync,List.mem_filter,iz,kL]
    simp
   refine fin ⟨_,⟨bG,cS,DS,_,cF,DF,_,cW,DW,pf,pw,r,L,CF,CW,CM,V,hS,hF,Wl,qH.congr e2,by rw [show (a.sync t).W=(Fj t [] a).flatMap (·.2) by rw [e1];rfl];exact vK,hI.mp,by rw [<-e1];exact hG,rfl⟩,rfl⟩ aa
  ·rintro X q v Y GB rfl gM qB hE
   refine Nn ?_
   have RJ:(X++Y).map (·.1)=X.map (·.1)++Y.map (·.1):=List.map_append
   have hky:(X++(q,v) :: Y).map (·.1)=X.map (·.1)++q :: Y.map (·.1):=by simp
   rw [hky] at hG qH vK hIn
   have L7:q∉X.map (·.1)++Y.map (·.1):=by
    have:=hIn.1
    rw [List.nodup_append,List.nodup_cons] at this
    obtain ⟨-,⟨n2, -⟩,n3⟩:=this
    simp only [List.mem_append,not_or]
    exact ⟨fun h=>n3 q h q (List.mem_cons_self ..) rfl,n2⟩
   have hlen:(X++Y).length<(X++(q,v) :: Y).length:=by simp only [List.length_append,List.length_cons];omega
   have RK:q∈L.map (·.1):=hIn.2 q (by simp)
   have stay:jF t q=false->Fi m L (Fj t ((X++Y).map (·.1)) a) V/\Dh pf s m (a.D.filter fun k => !(iz t ((X++Y).map (·.1)) a).contains k) CF/\Fh pw s m ((Fj t ((X++Y).map (·.1)) a).flatMap (·.2)) CW:=fun h=>by
    rw [RJ,<-YU h,<-O3 h];exact ⟨hG,qH,vK⟩
   refine gg ?_ ?_ <;> intro h1
   ·obtain ⟨k1,k2,k3⟩:=stay (by simp only [jF,decide_eq_false_iff_not];omega)
    refine gn ?_
    exact ⟨(L,X++Y,CF,CW,CM,GB,V),⟨qB,k1,k2,k3⟩,hlen,aq,_,aa⟩
   ·have ht2:IntKind.u64.wrap ((t:Int) - 2)=(t:Int) - 2:=by rw [IntWalk.u64_in _ oZ]
    refine gi ?_ ?_ <;> intro h2
    ·obtain ⟨k1,k2,k3⟩:=stay (by simp only [jF,decide_eq_false_iff_not];omega)
     refine gn ?_
     exact ⟨(L,X++Y,CF,CW,CM,GB,V),⟨qB,k1,k2,k3⟩,hlen,aq,_,aa⟩
    ·have hrp:jF t q=true:=by simp only [jF,decide_eq_true_eq];omega
     clear stay
     obtain ⟨ks,V1,D,V2,jC,rfl,hD,xq⟩:=hG.cut hLn gM
     rw [IB hrp L7,<-RJ] at xq
     have Dm:(q,ks)∈a.fB:=(List.mem_filter.1 jC).1
     have hu:=fun g hg=>abj g hg q ks Dm
     have lV:ks.length<=1280:=ha.abi hm.1 hs.2 Dm
     have adt:ks.Nodup:=ha.nodup Dm
     have Ff:∀k∈ks,k∈a.D:=fun k hk=>ha.wd k (List.mem_flatMap.2 ⟨_,Dm,hk⟩)
     have E7:∀k∈ks,k∈a.D.filter fun k => !(iz t (X.map (·.1)++q :: Y.map (·.1)) a).contains k:=fun k hk=>by
      refine List.mem_filter.2 ⟨Ff k hk, ?_⟩
      simp only [List.contains_eq_mem,Bool.not_eq_true',decide_eq_false_iff_not]
      intro h
      obtain ⟨g,g1,g2,g3,g4⟩:=vR.1 h
      have:=ha.one g1 Dm g4 hk
      rw [this] at g3
      exact g3 (by simp)
     have hW0:∀k∈ks,k∈(Fj t (X.map (·.1)++q :: Y.map (·.1)) a).flatMap (·.2):=fun k hk=>List.mem_flatMap.2 ⟨_,jC,hk⟩
     have abk:∀k,(k∈(Fj t (X.map (·.1)++q :: Y.map (·.1)) a).flatMap (·.2)/\k∉ks)↔k∈(Fj t ((X++Y).map (·.1)) a).flatMap (·.2):=fun k=>by
      rw [RJ,<-IB hrp L7]
      simp only [List.mem_flatMap,List.mem_filter,bne_iff_ne,ne_eq]
      constructor
      ·rintro ⟨⟨g,g1,g2⟩,g3⟩
       refine ⟨g,⟨g1,fun e=>g3 ?_⟩,g2⟩
       rw [hu g (List.mem_filter.1 g1).1 e] at g2;exact g2
      ·rintro ⟨g,⟨g1,g2⟩,g3⟩
       refine ⟨⟨g,g1,g3⟩,fun e=>g2 ?_⟩
       rw [ha.one (List.mem_filter.1 g1).1 Dm g3 e]
     have abl:∀k,(k∈(a.D.filter fun k => !(iz t (X.map (·.1)++q :: Y.map (·.1)) a).contains k)/\k∉ks)↔k∈a.D.filter fun k => !(iz t ((X++Y).map (·.1)) a).contains k:=fun k=>by
      rw [RJ]
      have:=Ac (k:=k) hrp L7 Dm hu
      simp only [List.mem_filter,List.contains_eq_mem,Bool.not_eq_true',decide_eq_false_iff_not,this,not_or,and_assoc]
     have abm:(jP L q).isSome=true:=by rw [gM];rfl
     have oM:ir (X++Y) q=X++Y:=vN (by rw [RJ];exact L7)
     generalize (a.D.filter fun k => !(iz t (X.map (·.1)++q :: Y.map (·.1)) a).contains k)=D0 at *
     generalize (Fj t (X.map (·.1)++q :: Y.map (·.1)) a).flatMap (·.2)=W0 at *
     clear hG hE hI jC hu Dm
     have jq:=hD.rd
     obtain ⟨Be,cD,rfl⟩:=hD.slice
     refine gs ?_
     refine gl [0,1,4,12,26,27] (fun ((i,_):Nat×Chunk×Chunk)=>[(28,.int .i64 i)]) (fun (_,CF,CW)=>[CF,CW]) (fun (i,CF,CW)=>i<=ks.length/\Dh pf s m (D0.filter fun k => !(ks.take i).contains k) CF/\Fh pw s m (W0.filter fun k => !(ks.take i).contains k) CW) (fun (i,_)=>ks.length - i) (0,CF,CW) ⟨by omega,qH.congr fun k=>by simp,vK.congr fun k=>by simp⟩ ?_
     rintro ⟨i,CF,CW⟩ ⟨hi,qH,vK⟩
     refine gi ?_ ?_ <;> intro bh
     ·have bo:i<ks.length:=by omega
      obtain ⟨k,hk⟩:∃k,k=ks[i]:=⟨_,rfl⟩
      have hx:ks[i]? = some k:=by rw [hk];exact List.getElem?_eq_getElem bo
      have hkm:k∈ks:=List.mem_of_getElem? hx
      have Bf:k∉ks.take i:=fun h=>by
       obtain ⟨j,hj,e⟩:=List.getElem_of_mem h
       rw [List.length_take] at hj
       rw [List.getElem_take] at e
       have:=(List.getElem_inj adt).1 (e.trans hk)
       omega
      have CZ:∀j,j∈ks.take (i+1)↔j∈ks.take i\/j=k:=fun j=>by
       rw [List.take_add_one,hx];simp
      obtain ⟨gD,oD,rfl⟩:=jq.addr oZ
      have xe:=ar Pl.aj (Ku m ks) i _ (OT hx)
      have RL:=ha.dl k (Ff k hkm)
      refine ga ?_;intro b7
      refine gc (TK pw s m hm.1 hs.2 k RL CW _ vK (List.mem_filter.2 ⟨hW0 k hkm,by simpa using Bf⟩)) ?_
      rintro _ _ ⟨rfl,CW',O1,rfl⟩
      refine gc (OR pf s m hm.1 hs.2 k RL CF _ qH (List.mem_filter.2 ⟨E7 k hkm,by simpa using Bf⟩)) ?_
      rintro _ _ ⟨rfl,vU,O4,rfl⟩
      refine gn ?_
      refine ⟨(i+1,vU,CW'),⟨by omega,O4.congr fun j => ?_,O1.congr fun j => ?_⟩,by simp only;omega,aq,_,aa⟩
      ·simp only [List.mem_filter,List.contains_eq_mem,Bool.not_eq_true',decide_eq_false_iff_not,bne_iff_ne,ne_eq,CZ,not_or,and_assoc]
      ·simp only [List.mem_filter,List.contains_eq_mem,Bool.not_eq_true',decide_eq_false_iff_not,bne_iff_ne,ne_eq,CZ,not_or,and_assoc]
     ·obtain rfl:i=ks.length:=by omega
      rw [List.take_length] at qH vK
      refine gx ?_
      intro CM' IC
      rw [oM] at IC
      refine gn ?_
      refine ⟨(_,X++Y,CF,CW,CM',GB,V1++V2),⟨IC,xq,qH.congr fun j => ?_,vK.congr fun j => ?_⟩,hlen,aq,_,aa⟩
      ·rw [<-abl];simp only [List.mem_filter,List.contains_eq_mem,Bool.not_eq_true',decide_eq_false_iff_not]
      ·rw [<-abk];simp only [List.mem_filter,List.contains_eq_mem,Bool.not_eq_true',decide_eq_false_iff_not]
theorem TR (p:Nat)(s m:Int)(hm:8<=m/\m<=1000)(hs:1<=s/\s<=10240)(a:Rm)(A:Chunk)(hA:oN p s m a A)(hr:∃k:Nat,k∉a.D/\(k+1:Int)*m<=s)(O:Chunk)(ad:Option Addr)(c:Nat)(hO:Rd O 1 (.slice ad 1 c) 1 [.int .i64 m]) :
  Ct 262 [ptr p,.slice ad 1 c] [A,O] fun u Bs=>∃k:Nat,k∉a.D/\(k+1:Int)*m<=s/\u = .tuple #[.agg #[.int .i64 0,.int .i64 (k*m),.int .i64 m],.int .i64 0]/\∃A',oN p s m (a.take k) A'/\Bs=[A',O]:=by
 obtain ⟨bG,cS,DS,Bb,cF,DF,Bc,cW,DW,pf,pw,r,L,CF,CW,CM,V,hS,hF,Wl,qH,vK,hM,hG,rfl⟩:=hA
 have OY:=hF.rd
 obtain ⟨gF,oF,rfl⟩:=OY.addr oZ
 have adu:=YS (.slice ad 1 c) O m hO
 have YV:=YT (.slice ad 1 c) O m hO
 have abn:=OS pf s m hm hs.2 CF a.D qH hr
 obtain ⟨gO,oO,rfl⟩:=hO.addr oZ
 refine st Tryz.func262 fun w0 => ?_
 refine gs ?_
 refine ga ?_;intro b2
 refine ga ?_;intro b4
 refine gc adu ?_
 rintro _ _ ⟨rfl,rfl⟩
 refine gc YV ?_
 rintro _ _ ⟨rfl,rfl⟩
 refine gl [1,2,4,33,34] (fun ((i,v6,_):Nat×Value×Chunk)=>[(35,.int .i64 i),(6,v6)]) (fun (_,_,C6)=>[C6]) (fun (i,v6,C6)=>i<=1/\(i=0->v6 = .slice none 0 0/\C6=[])/\(i=1->∃F3 c6,v6 = .slice F3 1 c6/\az C6 3 1 v6 1 [.int .i64 0])) (fun (i,_)=>1 - i) (0,.slice none 0 0,[]) ⟨by omega,fun _=>⟨rfl,rfl⟩,fun h=>by omega⟩ ?_
 rintro ⟨i,v6,C6⟩ ⟨hi,h0,h1⟩
 refine gi ?_ ?_ <;> intro bh
 ·obtain rfl:i=0:=by omega
  obtain ⟨rfl,rfl⟩:=h0 rfl
  refine gm ?_;intro b44
  refine gp ?_;intro F3 c6 C6 hC6
  refine gn ?_
  exact ⟨(1,_,C6),⟨by omega,fun h=>by omega,fun _=>⟨F3,c6,rfl,hC6⟩⟩,by simp only;omega,aq,_,aa⟩
 ·obtain rfl:i=1:=by omega
  obtain ⟨F3,c6,rfl,hC6⟩:=h1 rfl
  have Fb:=hC6.rd
  obtain ⟨g6,o6,rfl⟩:=Fb.addr oZ
  refine gc (OV (some ⟨g6,o6,none⟩) c6 (.func (.func 286) #[] #[ptr b2]) C6) ?_
  rintro _ _ rfl
  refine gl [1,2,4,50,51] (fun (_:Nat)=>[(52,.int .i64 0)]) (fun _=>[]) (fun _=>True) (fun _=>0) 0 True.intro ?_
  rintro n -
  refine gd [0,4,8,12,16,20,24,28,32,36,40,47,50,54,58,62,66] ?_
  refine gc abn ?_
  rintro _ _ ⟨k,hk,Fk,rfl,rfl⟩
  refine ga ?_;intro b13
  refine qC [[(p,RI (.slice bG 1 cS) (.slice (some ⟨gF,oF,none⟩) 1 cF) (.slice Bc 1 cW) (.map (some r)))],DF,[(b13,av [.int .i64 (k*m),.int .i64 m] 150)],[(b2,av [ptr p] 76)]] [0,4,8,12,16,20,24,28,32,36,40,45,51,54] ?_
  refine gc (Di pf s m hm.1 hs.2 k Fk CF a.D qH hk) ?_
  rintro _ _ ⟨rfl,vU,O4,rfl⟩
  refine gz ?_
  exact fin ⟨k,hk,Fk,rfl,_,⟨bG,cS,DS,_,cF,DF,Bc,cW,DW,pf,pw,r,L,vU,CW,CM,V,hS,hF,Wl,O4,vK,hM,hG,rfl⟩,rfl⟩ aa
theorem GC (s m:Int)(hm:8<=m/\m<=1000)(hs:1<=s/\s<=10240)(O:Chunk)(ad:Option Addr)(c:Nat)(hO:Rd O 1 (.slice ad 1 c) 1 [.int .i64 s])(ks:List Nat)(hn:ks.Nodup)(hk:∀k∈ks,(k+1:Int)*m<=s)(U:Chunk)(Wn:Option Addr)(cU:Nat)(hU:Rd U 3 (.slice Wn ks.length cU) ks.length ((Ku m ks).flatMap Pl.lay)) :
  Ct 41 [.slice ad 1 c,.slice Wn ks.length cU] [O,U] fun u Bs=>∃p A,u = .tuple #[ptr p,.int .i64 0]/\oN p s m ⟨ks,[]⟩ A/\Bs=[A,O,U]:=by
 have lV:ks.length<=1280:=pT 1280 ks hn fun k h=>by
  have:=hk k h
  have h2:=Int.mul_le_mul_of_nonneg_left hm.1 (show (0:Int)<=k+1 by omega)
  omega
 have h1:=OW ad c O s oZ hO
 have h2:=GA O ad 1 c _ hO oZ
 obtain ⟨gO,oO,rfl⟩:=hO.addr oZ
 refine st Tryz.func41 fun w0 => ?_
 refine gc h1 ?_
 rintro _ _ ⟨rfl,rfl⟩
 refine gc h2 ?_
 rintro _ _ ⟨bG,cS,DS,rfl,hS,rfl⟩
 refine uC .u64 ?_;intro r CM hM
 refine ga ?_;intro p
 refine gl [0,1,7,30,31] (fun ((i,_):Nat×Value×Value×Chunk×Chunk×Chunk×Chunk)=>[(32,.int .i64 i)]) (fun (_,vF,vW,DF,DW,CF,CW)=>[[(p,RI (.slice bG 1 cS) vF vW (.map (some r)))],DF,DW,CF,CW]) (fun (i,vF,vW,DF,DW,CF,CW)=>i<=1/\(i=0->vF = .slice none 0 0/\vW = .slice none 0 0/\DF=[]/\DW=[]/\CF=[]/\CW=[])/\(i=1->∃Bb cF Bc cW pf pw,vF = .slice Bb 1 cF/\vW = .slice Bc 1 cW/\az DF 192 1 vF 1 [ptr pf]/\az DW 192 1 vW 1 [ptr pw]/\Dh pf s m [] CF/\Fh pw s m [] CW)) (fun (i,_)=>1 - i) (0,.slice none 0 0,.slice none 0 0,[],[],[],[]) ⟨by omega,fun _=>⟨rfl,rfl,rfl,rfl,rfl,rfl⟩,fun h=>by omega⟩ ?_
 rintro ⟨i,vF,vW,DF,DW,CF,CW⟩ ⟨hi,e0,e1⟩
 refine gi ?_ ?_ <;> intro bh
 ·obtain rfl:i=0:=by omega
  obtain ⟨rfl,rfl,rfl,rfl,rfl,rfl⟩:=e0 rfl
  refine gd [0,4,8,12,16,20,25,29,33,36,40,47] ?_
  refine gc (Ks s m hs) ?_
  rintro _ _ ⟨pf,CF,rfl,qH,rfl⟩
  refine gm ?_;intro b43
  refine gp ?_;intro Bb cF DF hF
  refine gd [0,4,8,12,16,21,25,29,32,36,43] ?_
  refine gc (TL s m) ?_
  rintro _ _ ⟨pw,CW,rfl,vK,rfl⟩
  refine gm ?_;intro b53
  refine gp ?_;intro Bc cW DW hW
  refine gn ?_
  exact ⟨(1,_,_,DF,DW,CF,CW),⟨by omega,fun h=>oZ,fun _=>⟨Bb,cF,Bc,cW,pf,pw,rfl,rfl,hF,hW,qH,vK⟩⟩,by simp only;omega,aq,_,aa⟩
 ·obtain rfl:i=1:=by omega
  obtain ⟨Bb,cF,Bc,cW,pf,pw,rfl,rfl,hF,hW,qH,vK⟩:=e1 rfl
  have OY:=hF.rd
  obtain ⟨gF,oF,rfl⟩:=OY.addr oZ
  refine gl [7,58,59] (fun ((i,_):Nat×Chunk)=>[(60,.int .i64 i)]) (fun (_,CF)=>[CF]) (fun (i,CF)=>i<=ks.length/\Dh pf s m (ks.take i) CF) (fun (i,_)=>ks.length - i) (0,CF) ⟨by omega,qH⟩ ?_
  rintro ⟨i,CF⟩ ⟨hi,qH⟩
  refine gi ?_ ?_ <;> intro bh
  ·have bo:i<ks.length:=by omega
   obtain ⟨k,RJ⟩:∃k,k=ks[i]:=⟨_,rfl⟩
   have hx:ks[i]? = some k:=by rw [RJ];exact List.getElem?_eq_getElem bo
   have Fk:=hk k (List.mem_of_getElem? hx)
   have Bf:k∉ks.take i:=fun h=>by
    obtain ⟨j,hj,e⟩:=List.getElem_of_mem h
    rw [List.length_take] at hj
    rw [List.getElem_take] at e
    have:=(List.getElem_inj hn).1 (e.trans RJ)
    omega
   obtain ⟨gU,oU,rfl⟩:=hU.addr oZ
   have xe:=ar Pl.aj (Ku m ks) i _ (OT hx)
   refine ga ?_;intro b11
   refine gd [0,4,8,13,16,20,24,28,32,36,40,44,48,52,56,60,67,70,74] ?_
   refine gc (OX p (.slice none 0 0) _ _ _ bG cS) ?_
   rintro _ _ ⟨rfl,rfl⟩
   refine gc (Di pf s m hm.1 hs.2 k Fk CF _ qH Bf) ?_
   rintro _ _ ⟨rfl,vU,O4,rfl⟩
   refine gn ?_
   refine ⟨(i+1,vU),⟨by omega,O4.congr fun j => ?_⟩,by simp only;omega,aq,_,aa⟩
   rw [List.take_add_one,hx];simp [or_comm]
  ·obtain rfl:i=ks.length:=by omega
   rw [List.take_length] at qH
   refine gz ?_
   exact fin ⟨p,_,rfl,⟨bG,cS,DS,_,cF,DF,Bc,cW,DW,pf,pw,r,[],CF,CW,CM,[],hS,hF,hW,qH,vK,hM,rfl,rfl⟩,rfl⟩ aa
theorem yo (t pool:Nat)(fU:Option Addr)(mT cT:Nat)(vI vL vD:Value)(no i j:Nat):Ct 35 [ptr t,.int .i64 i,.int .i64 j] [[(t,Db pool (.slice fU mT cT) vI vL vD no)]] fun u Bs=>u = .agg #[.int .u64 pool,.slice fU mT cT,.int .i64 i,.int .i64 j]/\Bs=[[(t,Db pool (.slice fU mT cT) vI vL vD no)]]:=by
 refine st Tryz.func35 fun w0 => ?_
 refine ga ?_;intro b6
 refine gz ?_
 exact fin ⟨rfl,rfl⟩ aa
theorem yp (t pool:Nat)(tp:Tp)(w:Nat)(hw:tp.leaves=w/\w<=5)(fU:Option Addr)(cT:Nat)(DT:Chunk)(hT:az DT 23 3 (.slice fU 1 cT) 1 tp.lay)(vI:Value)(no:Nat) :
  Ct 36 [ptr t] [[(t,Db pool (.slice fU 1 cT) vI (.slice none 0 0) (.slice none 0 0) no)],DT] fun _ Bs=>∃jS cL DL gl Be cD DD gd,az DL 111 1 (.slice jS 1 cL) 1 [.slice (some ⟨gl,0,none⟩) w w]/\az DD 35 1 (.slice Be 1 cD) 1 [.slice (some ⟨gd,0,none⟩) w w] /\
   Bs=[[(t,Db pool (.slice fU 1 cT) vI (.slice jS 1 cL) (.slice Be 1 cD) no)],DT,DL,[(gl,av (List.replicate w (.pointer none)) 108)],DD,[(gd,av (List.replicate w (.pointer none)) 47)]]:=by
 have hTr:=hT.rd
 obtain ⟨gT,oT,rfl⟩:=hTr.addr oZ
 have hsT:Sub (0*3) tp.lay tp.lay:=ar Tp.aj [tp] 0 tp rfl
 obtain ⟨kd,lv,se⟩:=tp
 obtain ⟨rfl,hw⟩:=hw
 refine st Tryz.func36 fun w0 => ?_
 refine gl [0,7,8] (fun ((j,_):Nat×Value×Value×Chunk×Chunk×Chunk×Chunk)=>[(9,.int .i64 j)]) (fun (_,vL,vD,DL,Dl,DD,Dd)=>[[(t,Db pool (.slice (some ⟨gT,oT,none⟩) 1 cT) vI vL vD no)],DL,Dl,DD,Dd]) (fun (j,vL,vD,DL,Dl,DD,Dd)=>j<=1/\(j=0->vL = .slice none 0 0/\vD = .slice none 0 0/\DL=[]/\Dl=[]/\DD=[]/\Dd=[])/\(j=1->∃jS cL gl Be cD gd,vL = .slice jS 1 cL/\vD = .slice Be 1 cD/\az DL 111 1 (.slice jS 1 cL) 1 [.slice (some ⟨gl,0,none⟩) w w]/\az DD 35 1 (.slice Be 1 cD) 1 [.slice (some ⟨gd,0,none⟩) w w]/\Dl=[(gl,av (List.replicate w (.pointer none)) 108)]/\Dd=[(gd,av (List.replicate w (.pointer none)) 47)])) (fun (j,_)=>1 - j) (0,.slice none 0 0,.slice none 0 0,[],[],[],[]) ⟨by omega,(fun _=>⟨rfl,rfl,rfl,rfl,rfl,rfl⟩),(fun h=>by cases h)⟩ ?_
 rintro ⟨j,vL,vD,DL,Dl,DD,Dd⟩ ⟨hj,h0,h1⟩
 refine gi ?_ ?_ <;> intro bh
 ·obtain rfl:j=0:=by omega
  obtain ⟨rfl,rfl,rfl,rfl,rfl,rfl⟩:=h0 rfl
  refine ga ?_;intro b3
  refine gd [0,4,8,12,16,20,24,29,33,37,40,44,51] ?_
  refine gm ?_;intro lL
  refine gm ?_;intro b21
  refine gp ?_;intro jS cL DL Dp
  refine gd [0,4,8,12,16,20,24,29,33,37,40,44,51] ?_
  refine gm ?_;intro nK
  refine gm ?_;intro b33
  refine gp ?_;intro Be cD DD L8
  refine gn ?_
  exact ⟨(1,_,_,DL,_,DD,_),⟨by omega,(fun h=>by cases h),(fun _=>⟨jS,cL,lL,Be,cD,nK,rfl,rfl,Dp,L8,rfl,rfl⟩)⟩,by simp only;omega,aq,_,aa⟩
 ·obtain rfl:j=1:=by omega
  obtain ⟨jS,cL,lL,Be,cD,nK,rfl,rfl,Dp,L8,rfl,rfl⟩:=h1 rfl
  refine gz ?_
  exact fin ⟨jS,cL,DL,lL,Be,cD,DD,nK,Dp,L8,rfl⟩ aa
theorem Dt (p:Nat)(qs:List Nat)(t pool:Nat)(tp:Tp)(pr:Bool)(n:Nat)(ls:List (Option Lv))(ok:dE tp pr n ls.length)(hall:∀x∈ls,x≠none)(R:Rk)(C L:Chunk)(hC:br p qs R C)(ho:dI qs R n ls)(hL:iw (fun k=>⟨pool,[tp],0,k⟩) 0 ls L)
  (fU:Option Addr) (cT:Nat) (DT:Chunk) (hT:az DT 23 3 (.slice fU 1 cT) 1 tp.lay) (jS:Option Addr) (cL:Nat) (DL:Chunk) (ov:Option Addr) (cl:Nat) (Dl:Chunk) (Dp:az DL 111 1 (.slice jS 1 cL) 1 [.slice ov ls.length cl]) (Bg:az Dl 108 1 (.slice ov ls.length cl) ls.length (ls.map iv)) (vD:Value) (DD:Chunk) (no:Nat) :
  Ct 40 [ptr t] [[(t,Db pool (.slice fU 1 cT) (.slice none 0 0) (.slice jS 1 cL) vD no)],DT,DL,Dl,DD,C,L] fun u Bs=>u = .int .i64 0/\∃V,jd t pool tp pr n ls no V/\Bs=[V,C]:=by
 have hn:=ok.hn
 have j4:=ok.hw
 have htp:=ok.ht
 have Ff:=ok.hk
 have hTr:=hT.rd
 obtain ⟨gT,oT,rfl⟩:=hTr.addr oZ
 have ID:=Dp.rd
 obtain ⟨gL,oL,rfl⟩:=ID.addr oZ
 have qE:[Value.slice ov ls.length cl][0]? = some (.slice ov ls.length cl):=rfl
 have tc:=Bg.rd
 have hsT:Sub (0*3) tp.lay tp.lay:=ar Tp.aj [tp] 0 tp rfl
 have hcn:ls.countP (·.isNone)<=1:=by
  have:ls.countP (·.isNone)=0:=List.countP_eq_zero.2 fun o qG=>by
   rcases o with _ | x
   ·exact absurd rfl (hall _ qG)
   ·simp
  omega
 have hex:∃x,some x∈ls:=by
  obtain ⟨ox,hx⟩:=eB (l:=ls) (i:=0) oZ
  rcases ox with _ | x
  ·exact absurd rfl (hall _ (List.mem_of_getElem? hx))
  ·exact ⟨x,List.mem_of_getElem? hx⟩
 refine st Tryz.func40 fun w0 => ?_
 refine gl [0,12,13] (fun ((j,_):Nat×Value×Chunk×Chunk)=>[(14,.int .i64 j)]) (fun (_,vI,DI,M)=>[[(t,Db pool (.slice (some ⟨gT,oT,none⟩) 1 cT) vI (.slice (some ⟨gL,oL,none⟩) 1 cL) vD no)],DI,M]) (fun (j,vI,DI,M)=>j<=1/\(j=0->vI = .slice none 0 0/\DI=[]/\M=[])/\(j=1->∃m dP cI,vI = .slice dP 1 cI/\az DI 183 1 (.slice dP 1 cI) 1 [Iw pr m]/\DvC pr m ls (n - 292) M)) (fun (j,_)=>1 - j) (0,.slice none 0 0,[],[]) ⟨by omega,(fun _=>⟨rfl,rfl,rfl⟩),(fun h=>by cases h)⟩ ?_
 rintro ⟨j,vI,DI,M⟩ ⟨hj,h0,h1⟩
 refine gi ?_ ?_ <;> intro bh
 ·obtain rfl:j=0:=by omega
  obtain ⟨rfl,rfl,rfl⟩:=h0 rfl
  refine ga ?_;intro b4
  cases pr with
  | true =>
   have hk3:tp.kind=3:=by simpa using Ff
   refine gc (YF p qs n ls _ hn ⟨ok.hp rfl,j4.2⟩ R C L hC hL ho hcn Dl ov cl tc) ?_
   rintro _ _ ⟨m,M,rfl,hM,rfl⟩
   refine ge ?_
   refine gmi ?_
   refine gta ?_
   refine gm ?_;intro b66
   refine gp ?_;intro dP cI DI YW
   refine gn ?_
   exact ⟨(1,_,DI,M),⟨by omega,(fun h=>by cases h),(fun _=>⟨m,dP,cI,rfl,YW,hM⟩)⟩,by simp only;omega,aq,_,aa⟩
  | false =>
   have hk3:tp.kind≠3:=by simpa using Ff
   refine gc (YC p qs n ls _ hn j4 R C L hC hL ho hex Dl ov cl tc) ?_
   rintro _ _ ⟨m,M,rfl,hM,rfl⟩
   refine ge ?_
   refine gmi ?_
   refine gta ?_
   refine gm ?_;intro b66
   refine gp ?_;intro dP cI DI YW
   refine gn ?_
   exact ⟨(1,_,DI,M),⟨by omega,(fun h=>by cases h),(fun _=>⟨m,dP,cI,rfl,YW,hM⟩)⟩,by simp only;omega,aq,_,aa⟩
 ·obtain rfl:j=1:=by omega
  obtain ⟨m,dP,cI,rfl,YW,hM⟩:=h1 rfl
  refine gz ?_
  exact fin ⟨rfl,_,⟨m,M,_,cT,DT,dP,cI,DI,_,cL,DL,ov,cl,Dl,vD,DD,L,hT,YW,Dp,Bg,hM,hL,rfl⟩,rfl⟩ aa
end Go.Proofs.YtcfioaeamfappaaGreatDoor
