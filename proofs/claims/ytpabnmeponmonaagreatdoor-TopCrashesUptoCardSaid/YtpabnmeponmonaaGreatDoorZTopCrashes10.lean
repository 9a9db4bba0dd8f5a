/-
  10.
-/
import Derived.Test.YtpabnmeponmonaaGreatDoorZTopCrashes9
set_option maxRecDepth 10000
set_option maxHeartbeats 4000000
open List Go.Proofs.Tryz Go.Sl
namespace Go.Proofs.YtpabnmeponmonaaGreatDoor
theorem iE (p:Nat)(l:List Sp)(mn:Int)(ad:Option Addr)(c:Nat)(D:Chunk)(hD:aC D 164 2 (.slice ad l.length c) l.length (l.flatMap Sp.lay))(hl:l.length<=4096)(a b:Nat)(hab:a<=b/\b<=l.length)(X:Chunk)(XO:Option Addr)(cx:Nat)(x:List Sp)(m:Nat)(hm:x.length=m)(hX:Rd X 2 (.slice XO m cx) m (x.flatMap Sp.lay))(hf:l.length - (b - a)+m<=4096) :
  Ct 165 [ptr p,.int .i64 a,.int .i64 b,.slice XO m cx] [[(p,rsO (.slice ad l.length c) mn)],D,X] fun u Bs=>u = .int .i64 0/\∃A,Ny p (l.take a++x++l.drop b) mn A/\Bs=[A,X]:=by
 have jW:=hD.rd
 have afa:=hD.eH
 have Te:IntKind.i64.wrap ((b:Int) - a)=((b - a:Nat):Int):=by rw [IntWalk.i64_in _ oZ];omega
 have NV:IntKind.i64.wrap ((l.length:Int) - ((b - a:Nat):Int))=((l.length - (b - a):Nat):Int):=by rw [IntWalk.i64_in _ oZ];omega
 have hw3:IntKind.i64.wrap (((l.length - (b - a):Nat):Int)+(m:Nat))=((l.length - (b - a)+m:Nat):Int):=by rw [IntWalk.i64_in _ oZ];omega
 have hy1:((l.flatMap Sp.lay).drop (0*2)).take ((a - 0)*2)=(l.take a).flatMap Sp.lay:=by rw [Nat.zero_mul,drop_zero,Nat.sub_zero,me]
 have Nw:a - 0=a:=rfl
 have hy2:((l.flatMap Sp.lay).drop (b*2)).take ((l.length - b)*2)=(l.drop b).flatMap Sp.lay:=by
  rw [qZ,me,take_of_length_le (by rw [length_drop];omega)]
 refine st func165 fun w0 => ?_
 refine rQ [[(p,rsO (.slice ad l.length c) mn)]] [0,4,8,12,16,20,24,28,32,36,40,44,48,52,56,60,64,68,72,76,80,84,88,92,96,101,105,108,112,119] ?_
 refine gw ?_;intro iY hR1
 refine gw ?_;intro ad2 kY
 refine gm ?_;intro b47
 have agX:Rd D 2 (.slice iY (l.take a).length (a - 0)) (l.take a).length ((l.take a).flatMap Sp.lay):=by rw [length_take,Nat.min_eq_left oZ];exact hR1
 have agY:Rd D 2 (.slice ad2 (l.drop b).length (l.length - b)) (l.drop b).length ((l.drop b).flatMap Sp.lay):=by rw [length_drop];exact kY
 have hS:Sls (D++X) [(.slice iY a (a - 0),l.take a),(.slice XO m cx,x),(.slice ad2 (l.length - b) (l.length - b),l.drop b)]:=by
  refine ⟨fun y hy => ?_,fun y hy => ?_,by simp, ?_⟩
  ·simp only [List.mem_cons,not_mem_nil,or_false] at hy
   rcases hy with rfl | rfl | rfl
   ·have h:(l.take a).length=a:=by rw [length_take];omega
    simp only [h]
    exact hR1.sub fun q hq=>mem_append_left _ hq
   ·simp only [hm]
    exact hX.sub fun q hq=>mem_append_right _ hq
   ·have h:(l.drop b).length=l.length - b:=by rw [length_drop]
    simp only [h]
    exact kY.sub fun q hq=>mem_append_left _ hq
  ·simp only [List.mem_cons,not_mem_nil,or_false] at hy
   rcases hy with rfl | rfl | rfl
   ·exact ⟨iY,a - 0,by simp only [length_take];rw [Nat.min_eq_left oZ]⟩
   ·exact ⟨XO,cx,by rw [hm]⟩
   ·exact ⟨ad2,l.length - b,by simp only [length_drop]⟩
  ·simp only [oQ,flatMap_cons,flatMap_nil,length_append,length_take,length_drop,length_nil,hm];omega
 have hV:Rd [(b47,ax [.slice iY a (a - 0),.slice XO m cx,.slice ad2 (l.length - b) (l.length - b)] 132)] 1 (.slice (some ⟨b47,0,none⟩) 3 3) 3 [.slice iY a (a - 0),.slice XO m cx,.slice ad2 (l.length - b) (l.length - b)]:=ay rfl (by simp [Value.oneCell']) oZ _
 have hcc:=LJ _ (D++X) _ 3 _ rfl hV hS
 refine gc hcc ?_
 rintro u _ ⟨C,hC,rfl⟩
 have hle:oQ [(.slice iY a (a - 0),l.take a),(.slice XO m cx,x),(.slice ad2 (l.length - b) (l.length - b),l.drop b)]=(l.take a++x++l.drop b).length:=by simp [oQ]
 rw [hle] at hC
 obtain ⟨adc,ccp,rfl⟩:=hC.slice
 have yq:aC C 164 2 (.slice adc (l.take a++x++l.drop b).length ccp) (l.take a++x++l.drop b).length ((l.take a++x++l.drop b).flatMap Sp.lay):=by simpa using hC
 refine gs ?_
 refine gz ?_
 exact fin ⟨rfl,_,⟨adc,ccp,C,yq,rfl⟩,rfl⟩ aa
end Go.Proofs.YtpabnmeponmonaaGreatDoor
namespace Go.Sl
structure Rp (s:Int)(P:Int->Prop)(l:List Sp):Prop where
 gd:Gd l
 mem:∀n,Sl.mL l n↔P n
 lim:∀n,P n->0<=n/\n<s
theorem aaa {s:Int}{l:List Sp}(h:Gd l):∀b:Int,(∀y∈l,b<=y.at_/\y.fin<=s)->2*(l.length:Int)<=max 0 (s - b+1):=by
 induction l with
 | nil=>intro b _;simp only [length_nil];omega
 | cons y r ih =>
  intro b hb
  obtain ⟨h1,h2,h3⟩:=cp.1 h
  have h6:=Sp.az.1 h1
  have h4:=hb y (mem_cons_self ..)
  have h5:=ih h3 (y.fin+1) (fun z hz=>⟨by have:=h2 z hz;omega,(hb z (mem_cons_of_mem _ hz)).2⟩)
  simp only [length_cons,Sp.fin] at *
  omega
section
variable {s:Int}{P Q:Int->Prop}{l m:List Sp}{x:Sp}
theorem Rp.in (h:Rp s P l){y:Sp}(hy:y∈l):0<=y.at_/\y.fin<=s:=by
 have m1:=Sp.az.1 (h.gd.may y hy)
 have h1:=h.lim _ ((h.mem y.at_).1 ⟨y,hy,by simp only [Sp.has,Sp.fin];omega⟩)
 have h2:=h.lim _ ((h.mem (y.fin - 1)).1 ⟨y,hy,by simp only [Sp.has,Sp.fin];omega⟩)
 simp only [Sp.fin] at *;omega
theorem Rp.len (h:Rp s P l)(hs:s<=8191):l.length<=4096:=by
 have:=aaa h.gd 0 (fun y hy=>h.in hy)
 omega
theorem Rp.congr (h:Rp s P l)(hpq:∀n,P n↔Q n):Rp s Q l:=⟨h.gd,fun n=>(h.mem n).trans (hpq n),fun n hn=>h.lim n ((hpq n).2 hn)⟩
theorem aab (s:Int):Rp s (fun _=>False) []:=⟨A0,fun n=>by simp [mL],fun _ h=>h.elim⟩
def gJ (n:Int):List Sp:=if 0<n then [⟨0,n⟩] else []
def sfx (k n:Int):List Sp:=if k<n then [⟨k,n - k⟩] else []
theorem LL (n:Int):gJ n=sfx 0 n:=by simp [gJ,sfx]
theorem aac {k n:Int}(hk:0<=k)(hn:n<=1099511627776):Rp n (fun i=>k<=i/\i<n) (sfx k n):=by
 unfold sfx
 split
 ·refine ⟨cp.2 ⟨by rw [Sp.az];simp only;omega,by simp,A0⟩,fun i => ?_,fun i hi=>⟨by omega,hi.2⟩⟩
  simp only [Hr,Sp.has,Sp.fin];omega
 ·refine ⟨A0,fun i => ?_,fun i hi=>⟨by omega,hi.2⟩⟩
  simp only [mL,not_mem_nil,false_and,exists_false,false_iff];omega
theorem xb {n:Int}(hn:n<=1099511627776):Rp n (fun i=>0<=i/\i<n) (gJ n):=by rw [LL];exact aac oZ hn
theorem Rp.has (h:Rp s P l)(hx:x.may=true):mK l x=true↔∀n,x.has n->P n:=by
 constructor
 ·intro hh n hn
  obtain ⟨y,hy,h1,h2⟩:=wZ h.gd hh
  exact (h.mem n).1 ⟨y,hy,by simp only [Sp.has] at *;omega⟩
 ·intro hp
  exact Qg h.gd hx (cover h.gd hx fun n hn=>(h.mem n).2 (hp n hn))
theorem Rp.meets (h:Rp s P l)(hx:x.may=true):er l x=true↔∃n,x.has n/\P n:=by
 have m1:=Sp.az.1 hx
 simp only [er,hx,Bool.true_and,decide_eq_true_eq,n7 h.gd hx]
 constructor
 ·rintro ⟨y,hy,h1,h2⟩
  have m2:=Sp.az.1 (h.gd.may y hy)
  refine ⟨max x.at_ y.at_,by simp only [Sp.has,Sp.fin] at *;omega,(h.mem _).1 ⟨y,hy,by simp only [Sp.has,Sp.fin] at *;omega⟩⟩
 ·rintro ⟨n,hn,hp⟩
  obtain ⟨y,hy,hyn⟩:=(h.mem n).2 hp
  exact ⟨y,hy,by simp only [Sp.has] at *;omega,by simp only [Sp.has] at *;omega⟩
theorem Rp.zo (h:Rp s P l)(hx:x.may=true):er l x=false↔∀n,x.has n->¬P n:=by
 rw [<-Bool.not_eq_true,h.meets hx]
 constructor
 ·intro q n hn hp;exact q ⟨n,hn,hp⟩
 ·rintro q ⟨n,hn,hp⟩;exact q n hn hp
theorem Rp.acq (h:Rp s P l)(hx:x.may=true)(h2:x.fin<=s)(hd:∀n,x.has n->¬P n)(hl:s<=8191\/l.length<=4000):wY l x=0/\Rp s (fun n=>P n\/x.has n) (Ho l x)/\cM (Ho l x)=cM l+x.many:=by
 have m1:=Sp.az.1 hx
 have hap:=Bb h.gd hx (fun n hn hxn=>hd n hxn ((h.mem n).1 hn))
 have I:=wU h.gd hx hap
 have R:Rp s (fun n=>P n\/x.has n) (bS l x false):=⟨I.gd,fun n=>by rw [I.mem,h.mem],fun n hn=>by
  rcases hn with hn | hn
  ·exact h.lim n hn
  ·simp only [Sp.has] at hn;omega⟩
 have c:wY l x=0:=Qh h.gd hx hap (by
  rcases hl with hl | hl
  ·exact R.len hl
  ·have:=I.len;omega)
 refine ⟨c,by rw [uC c];exact R,sQ h.gd c⟩
theorem Rp.acr (h:Rp s P l)(hx:x.may=true)(hd:∀n,x.has n->P n)(hl:s<=8191\/l.length<=4000):yv l x=0/\Rp s (fun n=>P n/\¬x.has n) (Hq l x)/\cM (Hq l x)=cM l - x.many:=by
 have hh:=(h.has hx).2 hd
 have J:=zk h.gd hx (wZ h.gd hh)
 have R:Rp s (fun n=>P n/\¬x.has n) (mb l x):=⟨J.gd,fun n=>by rw [J.mem,h.mem],fun n hn=>h.lim n hn.1⟩
 have c:yv l x=0:=by
  unfold yv
  rw [if_pos hh,if_neg]
  rcases hl with hl | hl
  ·have:=R.len hl;omega
  ·have:=J.len;omega
 exact ⟨c,by rw [uE c];exact R,sR h.gd c⟩
theorem Rp.find (h:Rp s P l){k a:Int}(hf:iq l k 0=(a,true)):(⟨a,k⟩:Sp).may=true/\0<=a/\1<=k/\a+k<=s/\∀n,(⟨a,k⟩:Sp).has n->P n:=by
 obtain ⟨h1,h2, -⟩:=find_spec h.gd hf
 have hm:=uD h2
 have m1:=Sp.az.1 hm
 have h3:=(h.has hm).1 h2
 have h4:=h.lim _ (h3 (a+k - 1) (by simp only [Sp.has,Sp.fin] at *;omega))
 simp only at m1
 exact ⟨hm,h1,by omega,by omega,h3⟩
theorem Rp.aad (h:Rp s P l){k a b:Int}(hk:1<=k)(hf:iq l k 0=(a,false))(hb:0<=b)(hbm:b+k<=1099511627776)(hp:∀n,(⟨b,k⟩:Sp).has n->P n):False:=by
 obtain ⟨y,hy,h1,h2⟩:=wZ h.gd ((h.has (by rw [Sp.az];simp only;omega)).2 hp)
 simp only [Sp.fin] at h2
 obtain ⟨c,hc, -⟩:=Hs h.gd hk (Int.le_refl 0) hy (by have:=h.in hy;simp only [Sp.fin] at *;omega) (by have:=h.in hy;simp only [Sp.fin] at *;omega)
 rw [hf] at hc
 cases hc
end
structure Pl where
 top:Int
 sp:Sp
deriving DecidableEq
def Pl.lay (p:Pl):List Value:=[.int .i64 p.top,.int .i64 p.sp.at_,.int .i64 p.sp.many]
theorem Pl.ak (p:Pl):p.lay.length=3:=rfl
structure Al where
 agt:List Int
 free:List (List Sp)
 waits:List (List Sp)
 fV:List (Int×List Pl)
def j6 (ae k:Int):Bool:=decide (2<=ae/\k<=ae - 2)
section
variable {a b:Al}{p:Pl}{t:Nat}{l:List Sp}
theorem U4:AY []:=⟨by simp,by simp,by simp⟩
theorem LM {n:Int}(hn:n<=40960):AY (gJ n):=(xb oZ).gd.Nx (by unfold gJ;split <;> simp)
end
section
variable {a:Al}{need:List Int}{t:Nat}{at_:Int}{l:List Sp}
end
def frQ (s m:Int)(D:List Nat)(n:Int):Prop:=0<=n/\n<s/\(n / m).toNat∉D
def wtQ (m:Int)(W:List Nat)(n:Int):Prop:=0<=n/\(n / m).toNat∈W
def lz (m:Int)(k:Nat):Sp:=⟨k*m,m⟩
theorem pQ {m n:Int}(hm:0<m)(k:Nat)(hn:0<=n):(n / m).toNat=k↔(lz m k).has n:=by
 simp only [lz,Sp.has,Sp.fin]
 have e:=Int.emod_add_mul_ediv n m
 have h1:=Int.emod_nonneg n (show m≠0 by omega)
 have h2:=Int.emod_lt_of_pos n hm
 have h0:=Int.ediv_nonneg hn (show 0<=m by omega)
 constructor
 ·rintro rfl
  rw [Int.toNat_of_nonneg h0,Int.mul_comm];omega
 ·rintro ⟨g1,g2⟩
  have h3:¬n / m<k:=fun h=>by
   have:=Int.mul_le_mul_of_nonneg_left (show n / m+1<=k by omega) (show 0<=m by omega)
   rw [Int.mul_add,Int.mul_comm m k] at this;omega
  have h4:¬(k:Int)+1<=n / m:=fun h=>by
   have:=Int.mul_le_mul_of_nonneg_left h (show 0<=m by omega)
   rw [Int.mul_add,Int.mul_comm m k] at this;omega
  omega
theorem EL {m n:Int}(hm:0<m)(hn:0<=n)(h:n % m≠0):(n - 1) / m=n / m:=by
 have e:=Int.emod_add_mul_ediv n m
 have h1:=Int.emod_nonneg n (show m≠0 by omega)
 have h2:=Int.emod_lt_of_pos n hm
 have:n - 1=(n % m - 1)+m*(n / m):=oZ
 rw [this,Int.add_mul_ediv_left _ _ oZ,Int.ediv_eq_zero_of_lt oZ oZ];omega
section
variable {s m:Int}{P:Int->Prop}{l:List Sp}{D W:List Nat}{k:Nat}
theorem Qn (h:Rp s P l)(hP:∀n,P n->n % m≠0->P (n - 1)):∀y∈l,y.at_ % m=0:=by
 intro y hy
 have m1:=Sp.az.1 (h.gd.may y hy)
 refine Classical.byContradiction fun hc => ?_
 obtain ⟨z,hz,hzn⟩:=(h.mem _).2 (hP _ ((h.mem y.at_).1 ⟨y,hy,by simp only [Sp.has,Sp.fin];omega⟩) hc)
 have m2:=Sp.az.1 (h.gd.may z hz)
 obtain ⟨i,hi,rfl⟩:=getElem_of_mem hy
 obtain ⟨j,hj,rfl⟩:=getElem_of_mem hz
 have g:=pairwise_iff_getElem.1 h.gd.zj
 simp only [Sp.has,Sp.fin] at *
 rcases Nat.lt_trichotomy i j with c | rfl | c
 ·have:=g i j hi hj c;omega
 ·omega
 ·have:=g j i hj hi c;omega
theorem aae (hm:0<m)(h:Gd l)(h0:∀y∈l,y.at_ % m=0):∀b N:Int,b<=N->(∀y∈l,b<=y.at_ / m/\y.at_ / m<N)->(l.length:Int)<=N - b:=by
 induction l with
 | nil=>intro b N hb _;simp only [length_nil];omega
 | cons y r ih =>
  intro b N hb hy
  obtain ⟨h1,h2,h3⟩:=cp.1 h
  have m1:=Sp.az.1 h1
  have hy0:=hy y (mem_cons_self ..)
  have:=ih h3 (fun z hz=>h0 z (mem_cons_of_mem _ hz)) (y.at_ / m+1) N oZ (fun z hz=>⟨by
   have k1:=h2 z hz
   have e1:=Int.emod_add_mul_ediv y.at_ m
   have e2:=Int.emod_add_mul_ediv z.at_ m
   rw [h0 y (mem_cons_self ..)] at e1
   rw [h0 z (mem_cons_of_mem _ hz)] at e2
   have:¬z.at_ / m<=y.at_ / m:=fun c=>by
    have:=Int.mul_le_mul_of_nonneg_left c (show 0<=m by omega)
    simp only [Sp.fin] at k1;omega
   omega,(hy z (mem_cons_of_mem _ hz)).2⟩)
  simp only [length_cons];omega
theorem sS (h:Rp s P l)(hm:8<=m)(hs:s<=10240)(hP:∀n,P n->n % m≠0->P (n - 1)):l.length<=1280:=by
 have:=aae (m:=m) oZ h.gd (Qn h hP) 0 1280 oZ (fun y hy=>by
  have k:=h.in hy
  have m1:=Sp.az.1 (h.gd.may y hy)
  refine ⟨Int.ediv_nonneg k.1 oZ,Int.ediv_lt_of_lt_mul oZ ?_⟩
  have:=Int.mul_le_mul_of_nonneg_left hm (show (0:Int)<=1280 by omega)
  simp only [Sp.fin] at k;omega)
 omega
theorem uF (hm:8<=m):∀n,frQ s m D n->n % m≠0->frQ s m D (n - 1):=fun n ⟨h1,h2,h3⟩ h=>by
 have:n≠0:=fun e=>h (by rw [e];exact Int.zero_emod _)
 exact ⟨by omega,by omega,by rwa [EL oZ h1 h]⟩
theorem Be (hm:8<=m):∀n,wtQ m W n->n % m≠0->wtQ m W (n - 1):=fun n ⟨h1,h3⟩ h=>by
 have:n≠0:=fun e=>h (by rw [e];exact Int.zero_emod _)
 exact ⟨by omega,by rwa [EL oZ h1 h]⟩
abbrev Gk (s m:Int)(D:List Nat)(l:List Sp):Prop:=Rp s (frQ s m D) l
abbrev NA (s m:Int)(W:List Nat)(l:List Sp):Prop:=Rp s (wtQ m W) l
theorem Gk.Nx (h:Gk s m D l)(hm:8<=m)(hs:s<=10240):AY l:=h.gd.Nx (by have:=sS h hm hs (uF hm);omega)
theorem NA.Nx (h:NA s m W l)(hm:8<=m)(hs:s<=10240):AY l:=h.gd.Nx (by have:=sS h hm hs (Be hm);omega)
theorem jZ (hm:8<=m)(hs:s<=10240)(hk:(k+1:Int)*m<=s):(lz m k).may=true/\0<=k*m/\(lz m k).fin<=s:=by
 have h0:=Int.mul_nonneg (show (0:Int)<=k by omega) (show 0<=m by omega)
 rw [Int.add_mul,Int.one_mul] at hk
 refine ⟨?_,h0,by simp only [lz,Sp.fin];omega⟩
 rw [Sp.az];simp only [lz];omega
theorem LN (hs:s<=10240):Gk s m [] (gJ s):=(xb oZ).congr fun n=>by simp [frQ]
theorem LQ:NA s m [] []:=(aab s).congr fun n=>by simp [wtQ]
theorem kM (hm:8<=m){n:Int}(h:(lz m k).has n):0<=n/\(n / m).toNat=k:=by
 have h0:=Int.mul_nonneg (show (0:Int)<=k by omega) (show 0<=m by omega)
 have:0<=n:=by have:=h.1;simp only [lz] at this;omega
 exact ⟨this,(pQ oZ k this).2 h⟩
theorem Gk.take (h:Gk s m D l)(hm:8<=m)(hs:s<=10240)(hk:(k+1:Int)*m<=s)(hd:k∉D):yv l (lz m k)=0/\Gk s m (k :: D) (Hq l (lz m k)):=by
 obtain ⟨h1,h2,h3⟩:=jZ hm hs hk
 obtain ⟨g1,g2, -⟩:=Rp.acr h h1 (fun n hn=>by
  obtain ⟨q1,q2⟩:=kM hm hn
  exact ⟨q1,by have:=hn.2;omega,by rwa [q2]⟩) (.inr (by have:=sS h hm hs (uF hm);omega))
 refine ⟨g1,g2.congr fun n => ?_⟩
 simp only [frQ,List.mem_cons,not_or]
 constructor
 ·rintro ⟨⟨q1,q2,q3⟩,q4⟩
  exact ⟨q1,q2,fun e=>q4 ((pQ oZ k q1).1 e),q3⟩
 ·rintro ⟨q1,q2,q4,q3⟩
  exact ⟨⟨q1,q2,q3⟩,fun e=>q4 ((pQ oZ k q1).2 e)⟩
theorem Gk.back (h:Gk s m D l)(hm:8<=m)(hs:s<=10240)(hk:(k+1:Int)*m<=s)(hd:k∈D):wY l (lz m k)=0/\Gk s m (D.filter fun j=>j != k) (Ho l (lz m k)):=by
 obtain ⟨h1,h2,h3⟩:=jZ hm hs hk
 obtain ⟨g1,g2, -⟩:=Rp.acq h h1 h3 (fun n hn hp=>hp.2.2 (by rw [(kM hm hn).2];exact hd)) (.inr (by have:=sS h hm hs (uF hm);omega))
 refine ⟨g1,g2.congr fun n => ?_⟩
 simp only [frQ,mem_filter,bne_iff_ne,ne_eq,not_and,Classical.not_not]
 constructor
 ·rintro (⟨q1,q2,q3⟩ | q)
  ·exact ⟨q1,q2,fun e=>absurd e q3⟩
  ·obtain ⟨q1,q2⟩:=kM hm q
   exact ⟨q1,by have:=q.2;omega,fun _=>q2⟩
 ·rintro ⟨q1,q2,q3⟩
  by_cases c:(n / m).toNat∈D
  ·exact .inr ((pQ oZ k q1).1 (q3 c))
  ·exact .inl ⟨q1,q2,c⟩
theorem NA.add (h:NA s m W l)(hm:8<=m)(hs:s<=10240)(hk:(k+1:Int)*m<=s)(hd:k∉W):wY l (lz m k)=0/\NA s m (W++[k]) (Ho l (lz m k)):=by
 obtain ⟨h1,h2,h3⟩:=jZ hm hs hk
 obtain ⟨g1,g2, -⟩:=Rp.acq h h1 h3 (fun n hn hp=>hd (by have:=hp.2;rwa [(kM hm hn).2] at this)) (.inr (by have:=sS h hm hs (Be hm);omega))
 refine ⟨g1,g2.congr fun n => ?_⟩
 simp only [wtQ,List.mem_append,mem_singleton]
 constructor
 ·rintro (⟨q1,q2⟩ | q)
  ·exact ⟨q1,.inl q2⟩
  ·obtain ⟨q1,q2⟩:=kM hm q
   exact ⟨q1,.inr q2⟩
 ·rintro ⟨q1,q2 | q2⟩
  ·exact .inl ⟨q1,q2⟩
  ·exact .inr ((pQ oZ k q1).1 q2)
theorem NA.rem (h:NA s m W l)(hm:8<=m)(hs:s<=10240)(hk:(k+1:Int)*m<=s)(hd:k∈W):yv l (lz m k)=0/\NA s m (W.filter fun j=>j != k) (Hq l (lz m k)):=by
 obtain ⟨h1,h2,h3⟩:=jZ hm hs hk
 obtain ⟨g1,g2, -⟩:=Rp.acr h h1 (fun n hn=>by
  obtain ⟨q1,q2⟩:=kM hm hn
  exact ⟨q1,by rwa [q2]⟩) (.inr (by have:=sS h hm hs (Be hm);omega))
 refine ⟨g1,g2.congr fun n => ?_⟩
 simp only [wtQ,mem_filter,bne_iff_ne,ne_eq]
 constructor
 ·rintro ⟨⟨q1,q2⟩,q4⟩
  exact ⟨q1,q2,fun e=>q4 ((pQ oZ k q1).1 e)⟩
 ·rintro ⟨q1,q2,q4⟩
  exact ⟨⟨q1,q2⟩,fun e=>q4 ((pQ oZ k q1).2 e)⟩
theorem Gk.meets (h:Gk s m D l)(hm:8<=m)(hs:s<=10240)(hk:(k+1:Int)*m<=s)(hd:k∈D):er l (lz m k)=false :=
 (Rp.zo h (jZ hm hs hk).1).2 fun n hn hp=>hp.2.2 (by rw [(kM hm hn).2];exact hd)
theorem NA.meets (h:NA s m W l)(hm:8<=m)(hs:s<=10240)(hk:(k+1:Int)*m<=s)(hd:k∉W):er l (lz m k)=false :=
 (Rp.zo h (jZ hm hs hk).1).2 fun n hn hp=>hd (by have:=hp.2;rwa [(kM hm hn).2] at this)
theorem LR (hm:8<=m)(hs:s<=10240)(hk:(k+1:Int)*m<=s):mK (gJ s) (lz m k)=true:=by
 obtain ⟨h1,h2,h3⟩:=jZ hm hs hk
 refine (Rp.has (xb oZ) h1).2 fun n hn=>⟨(kM hm hn).1,by have:=hn.2;omega⟩
theorem Gk.find (h:Gk s m D l)(hm:8<=m)(hs:s<=10240){a:Int}(hf:iq l m 0=(a,true)):∃k:Nat,a=k*m/\(k+1:Int)*m<=s/\k∉D:=by
 obtain ⟨h1,h2,h3,h4,h5⟩:=Rp.find h hf
 have hy:a % m=0:=by
  unfold iq at hf
  rw [if_neg oZ] at hf
  obtain ⟨y,hy,e, -⟩:=w5 hf
  have:=Qn h (uF hm) y hy
  have:=h.in hy
  rw [show a=y.at_ by omega];assumption
 have e:=Int.emod_add_mul_ediv a m
 have h0:=Int.ediv_nonneg h2 (show 0<=m by omega)
 rw [hy,Int.zero_add,Int.mul_comm] at e
 refine ⟨(a / m).toNat,by rw [Int.toNat_of_nonneg h0];exact e.symm,by rw [Int.add_mul,Int.toNat_of_nonneg h0,e];omega, ?_⟩
 exact (h5 a (by simp only [Sp.has,Sp.fin];omega)).2.2
theorem Gk.found (h:Gk s m D l)(hm:8<=m)(hs:s<=10240)(hk:(k+1:Int)*m<=s)(hd:k∉D):(iq l m 0).2=true:=by
 obtain ⟨h1,h2,h3⟩:=jZ hm hs hk
 cases hc:(iq l m 0).2 with
 | true=>rfl
 | false =>
  have:=Rp.aad h (k:=m) (a:=(iq l m 0).1) (b:=k*m) oZ (by rw [<-hc]) h2 (by simp only [lz,Sp.fin] at h3;omega) (fun n hn=>by
   obtain ⟨q1,q2⟩:=kM (k:=k) hm hn
   exact ⟨q1,by have:=hn.2;simp only [lz,Sp.fin] at *;omega,by rwa [q2]⟩)
  exact this.elim
end
structure Rm where
 D:List Nat
 fV:List (Int×List Nat)
def Rm.W (a:Rm):List Nat:=a.fV.flatMap (·.2)
structure Rm.Ok (s m:Int)(a:Rm):Prop where
 dl:∀k∈a.D,(k+1:Int)*m<=s
 wn:a.W.Nodup
 wd:∀k∈a.W,k∈a.D
def mN:List (Int×List Nat)->Int->Nat->List (Int×List Nat)
 | [],g,k=>[(g,[k])]
 | (j,l) :: r,g,k=>if j=g then (j,l++[k]) :: r else (j,l) :: mN r g k
def Rm.free (a:Rm)(g:Int)(k:Nat):Rm:=⟨a.D,mN a.fV g k⟩
def Rm.take (a:Rm)(k:Nat):Rm:=⟨k :: a.D,a.fV⟩
def Rm.sync (a:Rm)(t:Int):Rm:=⟨a.D.filter fun k => !((a.fV.filter fun g=>j6 t g.1).flatMap (·.2)).contains k,a.fV.filter fun g => !j6 t g.1⟩
end Go.Sl
namespace Go.Proofs.YtpabnmeponmonaaGreatDoor
theorem Qo (p:Nat)(l:List Sp)(mn:Int)(A:Chunk)(hA:Ny p l mn A)(hG:AY l)(x:Sp)(hh:mK l x=true)(hlen:(mb l x).length<=4096)(hmn:0<=mn/\mn<=1099511627776):Ct 105 [ptr p,x.agg] [A] fun u Bs=>u = .int .i64 0/\∃A',Ny p (mb l x) (mn - x.many) A'/\Bs=[A']:=by
 have hm:=uD hh
 have G1:=Sp.az.1 hm
 have hha:=Qj p l mn A hA hG x oZ
 rw [hh] at hha
 refine st func105 fun w0 => ?_
 refine ga ?_;intro b3
 refine gc hha ?_
 rintro _ _ ⟨rfl,rfl⟩
 refine gc (n8 p l mn x.at_ A hA hG) ?_
 rintro _ _ ⟨k,rfl,hk,rfl⟩
 obtain ⟨ad,c,D,hD,rfl⟩:=hA
 have jW:=hD.rd
 obtain ⟨kI,h1,h2⟩:=(uA hG.gd hm hk).1 hh
 have ic:=hG.at kI
 have sT:=UT hG.gd hm hk kI h1 h2
 obtain ⟨g,off,rfl⟩:=jW.addr oZ
 have hs:=av Sp.ak l k _ (getElem?_eq_getElem kI)
 obtain ⟨y,hy⟩:∃y,y=l[k]:=⟨_,rfl⟩
 rw [<-hy] at ic hs sT h1 h2
 refine gs ?_
 refine ga ?_;intro b6
 have yt:=hG.len
 have U5:¬x.common y=0:=by unfold Sp.common;rw [if_neg (by simp only [Sp.fin] at *;omega)];simp only [Sp.fin] at *;omega
 have hfy:y.fin=y.at_+y.many:=rfl
 have hfx:x.fin=x.at_+x.many:=rfl
 have Te:IntKind.i64.wrap (x.at_ - y.at_)=x.at_ - y.at_:=IntWalk.i64_in _ oZ
 have NV:IntKind.i64.wrap (y.fin - x.fin)=y.fin - x.fin:=IntWalk.i64_in _ oZ
 have hw3:IntKind.i64.wrap (mn - x.many)=mn - x.many:=IntWalk.i64_in _ oZ
 have hey:=jc y oZ
 have hex:=jc x oZ
 refine gi ?_ ?_ <;> intro h3
 ·have h3:y.at_<x.at_:=by simpa using h3
  refine gm ?_;intro b38
  refine gp ?_;intro tT c7 C7 hC7
  refine gd [0,8,5,15,18] ?_
  refine gc hey ?_
  rintro _ _ ⟨rfl,rfl⟩
  refine gc hex ?_
  rintro _ _ ⟨rfl,rfl⟩
  refine gi ?_ ?_ <;> intro h4
  ·have h4:x.fin<y.fin:=by simpa using h4
   refine gd [0,4,12,20,9,17,25,28,32,37,43,46] ?_
   refine gc hex ?_
   rintro _ _ ⟨rfl,rfl⟩
   refine gc hey ?_
   rintro _ _ ⟨rfl,rfl⟩
   refine gc hex ?_
   rintro _ _ ⟨rfl,rfl⟩
   refine gm ?_;intro b54
   refine gp ?_;intro ze c8 C8 Ns
   have Qd:eL x y=[⟨y.at_,x.at_ - y.at_⟩,⟨x.fin,y.fin - x.fin⟩]:=by unfold eL;rw [if_neg U5,if_pos h3,if_pos h4];rfl
   rw [Qd] at sT
   have bR:=iE p l mn (some ⟨g,off,none⟩) c D hD hG.len k (k+1) oZ _ _ _ [⟨y.at_,x.at_ - y.at_⟩,⟨x.fin,y.fin - x.fin⟩] 2 rfl Ns.rd (by rw [sT] at hlen;simp only [length_append,length_take,length_drop,length_cons,length_nil] at hlen;omega)
   rw [<-sT] at bR
   refine gc bR ?_
   rintro _ _ ⟨rfl,A',eo,rfl⟩
   obtain ⟨bz,c',D',eJ,rfl⟩:=eo
   refine gs ?_
   refine gz ?_
   exact fin ⟨rfl,_,⟨bz,c',D',eJ,rfl⟩,rfl⟩ aa
  ·have h4:¬x.fin<y.fin:=by simpa using h4
   have Qd:eL x y=[⟨y.at_,x.at_ - y.at_⟩]:=by unfold eL;rw [if_neg U5,if_pos h3,if_neg h4];rfl
   rw [Qd] at sT
   have bR:=iE p l mn (some ⟨g,off,none⟩) c D hD hG.len k (k+1) oZ _ _ _ [⟨y.at_,x.at_ - y.at_⟩] 1 rfl hC7.rd (by rw [sT] at hlen;simp only [length_append,length_take,length_drop,length_cons,length_nil] at hlen;omega)
   rw [<-sT] at bR
   refine gc bR ?_
   rintro _ _ ⟨rfl,A',eo,rfl⟩
   obtain ⟨bz,c',D',eJ,rfl⟩:=eo
   refine gs ?_
   refine gz ?_
   exact fin ⟨rfl,_,⟨bz,c',D',eJ,rfl⟩,rfl⟩ aa
 ·have h3:¬y.at_<x.at_:=by simpa using h3
  refine gd [0,8,5,15,18] ?_
  refine gc hey ?_
  rintro _ _ ⟨rfl,rfl⟩
  refine gc hex ?_
  rintro _ _ ⟨rfl,rfl⟩
  refine gi ?_ ?_ <;> intro h4
  ·have h4:x.fin<y.fin:=by simpa using h4
   refine gd [0,4,12,20,9,17,25,28,32,37,43,46] ?_
   refine gc hex ?_
   rintro _ _ ⟨rfl,rfl⟩
   refine gc hey ?_
   rintro _ _ ⟨rfl,rfl⟩
   refine gc hex ?_
   rintro _ _ ⟨rfl,rfl⟩
   refine gm ?_;intro b54
   refine gp ?_;intro ze c8 C8 Ns
   have Qd:eL x y=[⟨x.fin,y.fin - x.fin⟩]:=by unfold eL;rw [if_neg U5,if_neg h3,if_pos h4];rfl
   rw [Qd] at sT
   have bR:=iE p l mn (some ⟨g,off,none⟩) c D hD hG.len k (k+1) oZ _ _ _ [⟨x.fin,y.fin - x.fin⟩] 1 rfl Ns.rd (by rw [sT] at hlen;simp only [length_append,length_take,length_drop,length_cons,length_nil] at hlen;omega)
   rw [<-sT] at bR
   refine gc bR ?_
   rintro _ _ ⟨rfl,A',eo,rfl⟩
   obtain ⟨bz,c',D',eJ,rfl⟩:=eo
   refine gs ?_
   refine gz ?_
   exact fin ⟨rfl,_,⟨bz,c',D',eJ,rfl⟩,rfl⟩ aa
  ·have h4:¬x.fin<y.fin:=by simpa using h4
   have Qd:eL x y=([]:List Sp):=by unfold eL;rw [if_neg U5,if_neg h3,if_neg h4];rfl
   rw [Qd] at sT
   have bR:=iE p l mn (some ⟨g,off,none⟩) c D hD hG.len k (k+1) oZ _ _ _ ([]:List Sp) 0 rfl (Rd.nil [] 2) (by rw [sT] at hlen;simp only [length_append,length_take,length_drop,length_cons,length_nil] at hlen;omega)
   rw [<-sT] at bR
   refine gc bR ?_
   rintro _ _ ⟨rfl,A',eo,rfl⟩
   obtain ⟨bz,c',D',eJ,rfl⟩:=eo
   refine gs ?_
   refine gz ?_
   exact fin ⟨rfl,_,⟨bz,c',D',eJ,rfl⟩,rfl⟩ aa
theorem Hz (p:Nat)(l:List Sp)(mn:Int)(A:Chunk)(hA:Ny p l mn A)(hG:AY l)(x:Sp)(hm:x.may=true)(Xd:er l x=false)(hlen:(bS l x false).length<=4096)(hmn:0<=mn/\mn<=1099511627776):Ct 161 [ptr p,x.agg] [A] fun u Bs=>u = .int .i64 0/\∃A',Ny p (bS l x false) (mn+x.many) A'/\Bs=[A']:=by
 have G1:=Sp.az.1 hm
 have hme:=w7 p l mn A hA hG x oZ
 have hma:=Hu x oZ
 rw [Xd] at hme
 rw [hm] at hma
 have yt:=hG.len
 refine st func161 fun w0 => ?_
 refine ga ?_;intro b3
 refine gc hma ?_
 rintro _ _ ⟨rfl,rfl⟩
 refine gc hme ?_
 rintro _ _ ⟨rfl,rfl⟩
 refine gc (n8 p l mn x.at_ A hA hG) ?_
 rintro _ _ ⟨k,rfl,hk,rfl⟩
 obtain ⟨ad,c,D,hD,rfl⟩:=hA
 have jW:=hD.rd
 have kI:=hk.1
 have yl:∀h:k<l.length,x.fin<=l[k].at_:=fun h=>by
  have:=sP hG.gd hm hk
  rw [Xd] at this
  have h2:¬l[k].at_<x.fin:=fun q=>by simp at this;have:=this h;omega
  omega
 refine gs ?_
 have hw9:IntKind.i64.wrap (mn+x.many)=mn+x.many:=IntWalk.i64_in _ oZ
 refine gd [0,4,8,12,16,20,24,28,32,36,40,48,52,45,56,60] ?_
 refine gg ?_ ?_ <;> intro xT
 ·have xT:0<k:=oZ
  have hk1:k - 1<l.length:=oZ
  have ic:=hG.at hk1
  obtain ⟨g,off,rfl⟩:=jW.addr oZ
  have hs:=av Sp.ak l (k - 1) _ (getElem?_eq_getElem hk1)
  have hkw:IntKind.i64.wrap ((k:Int) - 1)=((k - 1:Nat):Int):=by rw [IntWalk.i64_in _ oZ];omega
  refine gc (jc l[k - 1] oZ) ?_
  rintro _ _ ⟨rfl,rfl⟩
  refine gi ?_ ?_ <;> intro he
  ·have he:(l[k - 1]).fin=x.at_:=by simpa using he
   have acs:=fun (tj:k<l.length) (h2:l[k].at_=(⟨(l[k - 1]).at_,(l[k - 1]).many+x.many⟩:Sp).fin)=>wLR hG.gd hm tj xT he h2
   have hwL:=fun (h2:¬ ∃h:k<l.length,l[k].at_=(⟨(l[k - 1]).at_,(l[k - 1]).many+x.many⟩:Sp).fin)=>wL hG.gd hm kI xT he yl h2
   have x8:=Ht hG.gd hm kI xT he
   obtain ⟨x1,hxd⟩:∃x1:Sp,x1=⟨(l[k - 1]).at_,(l[k - 1]).many+x.many⟩:=⟨_,rfl⟩
   have hxa:(l[k - 1]).at_=x1.at_:=by rw [hxd]
   have UE:(l[k - 1]).many+x.many=x1.many:=by rw [hxd]
   rw [<-hxd] at x8 hwL acs
   have agZ:=Sp.az.1 x8
   have vg:=hs 0 _ rfl
   have vV:=hs 1 _ rfl
   have hwx:IntKind.i64.wrap ((l[k - 1]).many+x.many)=x1.many:=by rw [UE];exact IntWalk.i64_in _ oZ
   rw [hxa] at vg
   refine go ?_
   refine gd [0,4,8,12,16,20,24,28,32,36,40,44,48,52,56,60,64,69,72,76] ?_
   refine gg ?_ ?_ <;> intro tj
   ·have tj:k<l.length:=oZ
    have acu:=hG.at tj
    have lV:=av Sp.ak l k _ (getElem?_eq_getElem tj)
    have Qk:=lV 0 _ rfl
    have Ql:=lV 1 _ rfl
    refine gc (jc x1 oZ) ?_
    rintro _ _ ⟨rfl,rfl⟩
    refine gi ?_ ?_ <;> intro yb
    ·have yb:l[k].at_=x1.fin:=by simpa using yb
     have Nv:IntKind.i64.wrap (x1.many+l[k].many)=x1.many+l[k].many:=IntWalk.i64_in _ oZ
     refine gm ?_;intro iS
     have hw:=(by have:=acs tj yb;rw [hxa,UE] at this;exact this)
     have yw:Rd [(iS,ax [.int .i64 x1.at_,.int .i64 (x1.many+l[k].many)] 164)] 2 (.slice (some ⟨iS,0,none⟩) 1 1) 1 [.int .i64 x1.at_,.int .i64 (x1.many+l[k].many)]:=ay rfl (by simp [Value.oneCell']) oZ _
     have bR:=iE p l mn _ c D hD yt (k - 1) (k+1) oZ _ _ _ [⟨x1.at_,x1.many+l[k].many⟩] 1 rfl yw (by have:=congrArg List.length hw;simp only [length_append,length_take,length_drop,length_cons,length_nil] at this;omega)
     rw [hw] at bR
     refine gc bR ?_
     rintro _ _ ⟨rfl,A',eo,rfl⟩
     obtain ⟨bz,c',D',eJ,rfl⟩:=eo
     refine gs ?_
     refine gz ?_
     exact fin ⟨rfl,_,⟨bz,c',D',eJ,rfl⟩,rfl⟩ aa
    ·have yb:¬l[k].at_=x1.fin:=by simpa using yb
     refine gm ?_;intro iS
     have hw:=(by have:=hwL (fun q=>yb q.2);exact this)
     have yw:Rd [(iS,ax [.int .i64 x1.at_,.int .i64 (x1.many)] 164)] 2 (.slice (some ⟨iS,0,none⟩) 1 1) 1 [.int .i64 x1.at_,.int .i64 (x1.many)]:=ay rfl (by simp [Value.oneCell']) oZ _
     have bR:=iE p l mn _ c D hD yt (k - 1) (k) oZ _ _ _ [⟨x1.at_,x1.many⟩] 1 rfl yw (by have:=congrArg List.length hw;simp only [length_append,length_take,length_drop,length_cons,length_nil] at this;omega)
     rw [hw] at bR
     refine gc bR ?_
     rintro _ _ ⟨rfl,A',eo,rfl⟩
     obtain ⟨bz,c',D',eJ,rfl⟩:=eo
     refine gs ?_
     refine gz ?_
     exact fin ⟨rfl,_,⟨bz,c',D',eJ,rfl⟩,rfl⟩ aa
   ·have tj:¬k<l.length:=oZ
    refine gm ?_;intro iS
    have hw:=(by have:=hwL (fun q=>tj q.1);exact this)
    have yw:Rd [(iS,ax [.int .i64 x1.at_,.int .i64 (x1.many)] 164)] 2 (.slice (some ⟨iS,0,none⟩) 1 1) 1 [.int .i64 x1.at_,.int .i64 (x1.many)]:=ay rfl (by simp [Value.oneCell']) oZ _
    have bR:=iE p l mn _ c D hD yt (k - 1) (k) oZ _ _ _ [⟨x1.at_,x1.many⟩] 1 rfl yw (by have:=congrArg List.length hw;simp only [length_append,length_take,length_drop,length_cons,length_nil] at this;omega)
    rw [hw] at bR
    refine gc bR ?_
    rintro _ _ ⟨rfl,A',eo,rfl⟩
    obtain ⟨bz,c',D',eJ,rfl⟩:=eo
    refine gs ?_
    refine gz ?_
    exact fin ⟨rfl,_,⟨bz,c',D',eJ,rfl⟩,rfl⟩ aa
  ·have he:¬(l[k - 1]).fin=x.at_:=by simpa using he
   refine gd [0,4,8,12,16,20,24,28,32,36,40,44,48,52,56,60,64,69,72,76] ?_
   refine gg ?_ ?_ <;> intro tj
   ·have tj:k<l.length:=oZ
    have acu:=hG.at tj
    have lV:=av Sp.ak l k _ (getElem?_eq_getElem tj)
    have Qk:=lV 0 _ rfl
    have Ql:=lV 1 _ rfl
    refine gc (jc x oZ) ?_
    rintro _ _ ⟨rfl,rfl⟩
    refine gi ?_ ?_ <;> intro yb
    ·have yb:l[k].at_=x.fin:=by simpa using yb
     have Nv:IntKind.i64.wrap (x.many+l[k].many)=x.many+l[k].many:=IntWalk.i64_in _ oZ
     refine gm ?_;intro iS
     have hw:=wR hG.gd hm hk (fun ⟨_,q⟩=>he q) tj yb
     have yw:Rd [(iS,ax [.int .i64 x.at_,.int .i64 (x.many+l[k].many)] 164)] 2 (.slice (some ⟨iS,0,none⟩) 1 1) 1 [.int .i64 x.at_,.int .i64 (x.many+l[k].many)]:=ay rfl (by simp [Value.oneCell']) oZ _
     have bR:=iE p l mn _ c D hD yt (k) (k+1) oZ _ _ _ [⟨x.at_,x.many+l[k].many⟩] 1 rfl yw (by have:=congrArg List.length hw;simp only [length_append,length_take,length_drop,length_cons,length_nil] at this;omega)
     rw [hw] at bR
     refine gc bR ?_
     rintro _ _ ⟨rfl,A',eo,rfl⟩
     obtain ⟨bz,c',D',eJ,rfl⟩:=eo
     refine gs ?_
     refine gz ?_
     exact fin ⟨rfl,_,⟨bz,c',D',eJ,rfl⟩,rfl⟩ aa
    ·have yb:¬l[k].at_=x.fin:=by simpa using yb
     refine gm ?_;intro iS
     have hw:=wN hG.gd hm hk (fun ⟨_,q⟩=>he q) yl (fun q=>yb q.2)
     have yw:Rd [(iS,ax [.int .i64 x.at_,.int .i64 (x.many)] 164)] 2 (.slice (some ⟨iS,0,none⟩) 1 1) 1 [.int .i64 x.at_,.int .i64 (x.many)]:=ay rfl (by simp [Value.oneCell']) oZ _
     have bR:=iE p l mn _ c D hD yt (k) (k) oZ _ _ _ [x] 1 rfl yw (by have:=congrArg List.length hw;simp only [length_append,length_take,length_drop,length_cons,length_nil] at this;omega)
     rw [hw] at bR
     refine gc bR ?_
     rintro _ _ ⟨rfl,A',eo,rfl⟩
     obtain ⟨bz,c',D',eJ,rfl⟩:=eo
     refine gs ?_
     refine gz ?_
     exact fin ⟨rfl,_,⟨bz,c',D',eJ,rfl⟩,rfl⟩ aa
   ·have tj:¬k<l.length:=oZ
    refine gm ?_;intro iS
    have hw:=wN hG.gd hm hk (fun ⟨_,q⟩=>he q) yl (fun q=>tj q.1)
    have yw:Rd [(iS,ax [.int .i64 x.at_,.int .i64 (x.many)] 164)] 2 (.slice (some ⟨iS,0,none⟩) 1 1) 1 [.int .i64 x.at_,.int .i64 (x.many)]:=ay rfl (by simp [Value.oneCell']) oZ _
    have bR:=iE p l mn _ c D hD yt (k) (k) oZ _ _ _ [x] 1 rfl yw (by have:=congrArg List.length hw;simp only [length_append,length_take,length_drop,length_cons,length_nil] at this;omega)
    rw [hw] at bR
    refine gc bR ?_
    rintro _ _ ⟨rfl,A',eo,rfl⟩
    obtain ⟨bz,c',D',eJ,rfl⟩:=eo
    refine gs ?_
    refine gz ?_
    exact fin ⟨rfl,_,⟨bz,c',D',eJ,rfl⟩,rfl⟩ aa
 ·have xT:¬0<k:=oZ
  refine gd [0,4,8,12,16,20,24,28,32,36,40,44,48,52,56,60,64,69,72,76] ?_
  refine gg ?_ ?_ <;> intro tj
  ·have tj:k<l.length:=oZ
   have acu:=hG.at tj
   obtain ⟨g,off,rfl⟩:=jW.addr oZ
   have lV:=av Sp.ak l k _ (getElem?_eq_getElem tj)
   have Qk:=lV 0 _ rfl
   have Ql:=lV 1 _ rfl
   refine gc (jc x oZ) ?_
   rintro _ _ ⟨rfl,rfl⟩
   refine gi ?_ ?_ <;> intro yb
   ·have yb:l[k].at_=x.fin:=by simpa using yb
    have Nv:IntKind.i64.wrap (x.many+l[k].many)=x.many+l[k].many:=IntWalk.i64_in _ oZ
    refine gm ?_;intro iS
    have hw:=wR hG.gd hm hk (fun q=>xT q.1) tj yb
    have yw:Rd [(iS,ax [.int .i64 x.at_,.int .i64 (x.many+l[k].many)] 164)] 2 (.slice (some ⟨iS,0,none⟩) 1 1) 1 [.int .i64 x.at_,.int .i64 (x.many+l[k].many)]:=ay rfl (by simp [Value.oneCell']) oZ _
    have bR:=iE p l mn _ c D hD yt (k) (k+1) oZ _ _ _ [⟨x.at_,x.many+l[k].many⟩] 1 rfl yw (by have:=congrArg List.length hw;simp only [length_append,length_take,length_drop,length_cons,length_nil] at this;omega)
    rw [hw] at bR
    refine gc bR ?_
    rintro _ _ ⟨rfl,A',eo,rfl⟩
    obtain ⟨bz,c',D',eJ,rfl⟩:=eo
    refine gs ?_
    refine gz ?_
    exact fin ⟨rfl,_,⟨bz,c',D',eJ,rfl⟩,rfl⟩ aa
   ·have yb:¬l[k].at_=x.fin:=by simpa using yb
    refine gm ?_;intro iS
    have hw:=wN hG.gd hm hk (fun q=>xT q.1) yl (fun q=>yb q.2)
    have yw:Rd [(iS,ax [.int .i64 x.at_,.int .i64 (x.many)] 164)] 2 (.slice (some ⟨iS,0,none⟩) 1 1) 1 [.int .i64 x.at_,.int .i64 (x.many)]:=ay rfl (by simp [Value.oneCell']) oZ _
    have bR:=iE p l mn _ c D hD yt (k) (k) oZ _ _ _ [x] 1 rfl yw (by have:=congrArg List.length hw;simp only [length_append,length_take,length_drop,length_cons,length_nil] at this;omega)
    rw [hw] at bR
    refine gc bR ?_
    rintro _ _ ⟨rfl,A',eo,rfl⟩
    obtain ⟨bz,c',D',eJ,rfl⟩:=eo
    refine gs ?_
    refine gz ?_
    exact fin ⟨rfl,_,⟨bz,c',D',eJ,rfl⟩,rfl⟩ aa
  ·have tj:¬k<l.length:=oZ
   refine gm ?_;intro iS
   have hw:=wN hG.gd hm hk (fun q=>xT q.1) yl (fun q=>tj q.1)
   have yw:Rd [(iS,ax [.int .i64 x.at_,.int .i64 (x.many)] 164)] 2 (.slice (some ⟨iS,0,none⟩) 1 1) 1 [.int .i64 x.at_,.int .i64 (x.many)]:=ay rfl (by simp [Value.oneCell']) oZ _
   have bR:=iE p l mn _ c D hD yt (k) (k) oZ _ _ _ [x] 1 rfl yw (by have:=congrArg List.length hw;simp only [length_append,length_take,length_drop,length_cons,length_nil] at this;omega)
   rw [hw] at bR
   refine gc bR ?_
   rintro _ _ ⟨rfl,A',eo,rfl⟩
   obtain ⟨bz,c',D',eJ,rfl⟩:=eo
   refine gs ?_
   refine gz ?_
   exact fin ⟨rfl,_,⟨bz,c',D',eJ,rfl⟩,rfl⟩ aa
def EM (p:Nat)(s m:Int)(D:List Nat)(A:Chunk):Prop:=∃l,Gk s m D l/\Ny p l (cM l) A
def Gl (p:Nat)(s m:Int)(W:List Nat)(A:Chunk):Prop:=∃l,NA s m W l/\Ny p l (cM l) A
theorem Ct.post {g:FuncId}{args:List Value}{As:List Chunk}{P Q:Value->List Chunk->Prop}(h:Ct g args As P)(k:∀u Bs,P u Bs->Q u Bs):Ct g args As Q:=h.imp k
section
variable (p:Nat)(s m:Int)(hm:8<=m)(hs:s<=10240)(k:Nat)(hk:(k+1:Int)*m<=s)(A:Chunk)
include hm hs hk
theorem EN (D:List Nat)(hA:EM p s m D A)(hd:k∉D):Ct 105 [ptr p,(lz m k).agg] [A] fun u Bs=>u = .int .i64 0/\∃A',EM p s m (k :: D) A'/\Bs=[A']:=by
 obtain ⟨l,hl,hA⟩:=hA
 obtain ⟨h1,h2⟩:=hl.take hm hs hk hd
 obtain ⟨h3,h4⟩:=Ba h1
 refine (Qo p l _ A hA (hl.Nx hm hs) (lz m k) h3 h4 (uB hl.gd)).post fun u Bs => ?_
 rintro ⟨rfl,A',eo,rfl⟩
 rw [<-sR hl.gd h1] at eo
 rw [<-uE h1] at eo
 exact ⟨rfl,A',⟨_,h2,eo⟩,rfl⟩
theorem Qp (D:List Nat)(hA:EM p s m D A)(hd:k∈D):Ct 161 [ptr p,(lz m k).agg] [A] fun u Bs=>u = .int .i64 0/\∃A',EM p s m (D.filter fun j=>j != k) A'/\Bs=[A']:=by
 obtain ⟨l,hl,hA⟩:=hA
 obtain ⟨h1,h2⟩:=hl.back hm hs hk hd
 obtain ⟨h3,h4,h5⟩:=A8 h1
 refine (Hz p l _ A hA (hl.Nx hm hs) (lz m k) h3 h4 h5 (uB hl.gd)).post fun u Bs => ?_
 rintro ⟨rfl,A',eo,rfl⟩
 rw [<-sQ hl.gd h1] at eo
 rw [<-uC h1] at eo
 exact ⟨rfl,A',⟨_,h2,eo⟩,rfl⟩
theorem U6 (W:List Nat)(hA:Gl p s m W A)(hd:k∉W):Ct 161 [ptr p,(lz m k).agg] [A] fun u Bs=>u = .int .i64 0/\∃A',Gl p s m (W++[k]) A'/\Bs=[A']:=by
 obtain ⟨l,hl,hA⟩:=hA
 obtain ⟨h1,h2⟩:=hl.add hm hs hk hd
 obtain ⟨h3,h4,h5⟩:=A8 h1
 refine (Hz p l _ A hA (hl.Nx hm hs) (lz m k) h3 h4 h5 (uB hl.gd)).post fun u Bs => ?_
 rintro ⟨rfl,A',eo,rfl⟩
 rw [<-sQ hl.gd h1] at eo
 rw [<-uC h1] at eo
 exact ⟨rfl,A',⟨_,h2,eo⟩,rfl⟩
theorem U7 (W:List Nat)(hA:Gl p s m W A)(hd:k∈W):Ct 105 [ptr p,(lz m k).agg] [A] fun u Bs=>u = .int .i64 0/\∃A',Gl p s m (W.filter fun j=>j != k) A'/\Bs=[A']:=by
 obtain ⟨l,hl,hA⟩:=hA
 obtain ⟨h1,h2⟩:=hl.rem hm hs hk hd
 obtain ⟨h3,h4⟩:=Ba h1
 refine (Qo p l _ A hA (hl.Nx hm hs) (lz m k) h3 h4 (uB hl.gd)).post fun u Bs => ?_
 rintro ⟨rfl,A',eo,rfl⟩
 rw [<-sR hl.gd h1] at eo
 rw [<-uE h1] at eo
 exact ⟨rfl,A',⟨_,h2,eo⟩,rfl⟩
theorem LS (D:List Nat)(hA:EM p s m D A)(hd:k∈D):Ct 232 [ptr p,(lz m k).agg] [A] fun u Bs=>u = .bool false/\Bs=[A]:=by
 obtain ⟨l,hl,hA⟩:=hA
 have h0:=jZ hm hs hk
 have:=w7 p l _ A hA (hl.Nx hm hs) (lz m k) (by have:=Sp.az.1 h0.1;omega)
 rwa [hl.meets hm hs hk hd] at this
theorem LU (W:List Nat)(hA:Gl p s m W A)(hd:k∉W):Ct 232 [ptr p,(lz m k).agg] [A] fun u Bs=>u = .bool false/\Bs=[A]:=by
 obtain ⟨l,hl,hA⟩:=hA
 have h0:=jZ hm hs hk
 have:=w7 p l _ A hA (hl.Nx hm hs) (lz m k) (by have:=Sp.az.1 h0.1;omega)
 rwa [hl.meets hm hs hk hd] at this
end
theorem Qq (p:Nat)(s m:Int)(hm:8<=m/\m<=1000)(hs:s<=10240)(A:Chunk)(D:List Nat)(hA:EM p s m D A)(hd:∃k:Nat,k∉D/\(k+1:Int)*m<=s) :
  Ct 254 [ptr p,.int .i64 m,.int .i64 0] [A] fun u Bs=>∃k:Nat,k∉D/\(k+1:Int)*m<=s/\u = .tuple #[.int .i64 (k*m),.bool true]/\Bs=[A]:=by
 obtain ⟨l,hl,hA⟩:=hA
 obtain ⟨j,hj,hjs⟩:=hd
 refine (UY p l _ m 0 A hA (hl.Nx hm.1 hs) oZ oZ).post fun u Bs => ?_
 rintro ⟨rfl,rfl⟩
 have hf:=hl.found hm.1 hs hjs hj
 obtain ⟨k,h1,h2,h3⟩:=hl.find hm.1 hs (a:=(iq l m 0).1) (by rw [<-hf])
 exact ⟨k,h3,h2,by rw [hf,h1],rfl⟩
theorem EO (s:Int)(hs:1<=s/\s<=10240):Ct 102 [.int .i64 s] [] fun u Bs=>∃p A,u=ptr p/\Ny p (gJ s) (cM (gJ s)) A/\Bs=[A]:=by
 have hp:(0:Int)<s:=oZ
 refine st func102 fun w0 => ?_
 refine gc Qi ?_
 rintro _ _ ⟨p,A,rfl,hA,rfl⟩
 have h1:bS [] (⟨0,s⟩:Sp) false=gJ s:=by simp [bS,gJ,hp]
 have h2:cM (gJ s)=0+s:=by simp [gJ,hp,cM]
 have Hw:=Hz p [] 0 A hA U4 ⟨0,s⟩ (by rw [Sp.az];simp only;omega) (by simp [er,ly]) (by rw [h1];simp [gJ,hp]) oZ
 rw [h1,<-h2] at Hw
 refine gc Hw ?_
 rintro _ _ ⟨rfl,A',eo,rfl⟩
 refine gz ?_
 exact fin ⟨p,A',rfl,eo,rfl⟩ aa
theorem LV (s m:Int)(hs:1<=s/\s<=10240):Ct 102 [.int .i64 s] [] fun u Bs=>∃p A,u=ptr p/\EM p s m [] A/\Bs=[A] :=
 (EO s hs).post fun u Bs=>by
  rintro ⟨p,A,rfl,hA,rfl⟩
  exact ⟨p,A,rfl,⟨_,LN hs.2,hA⟩,rfl⟩
theorem U8 (s m:Int):Ct 103 [] [] fun u Bs=>∃p A,u=ptr p/\Gl p s m [] A/\Bs=[A] :=
 Qi.post fun u Bs=>by
  rintro ⟨p,A,rfl,hA,rfl⟩
  exact ⟨p,A,rfl,⟨_,LQ,hA⟩,rfl⟩
theorem aaf (v:Value)(O:Chunk)(x:Int)(hO:Rd O 1 v 1 [.int .i64 x]):Ct 248 [v] [O] fun u Bs=>u = .int .i64 x/\Bs=[O]:=by
 obtain ⟨ad,c,rfl⟩:=hO.slice
 obtain ⟨g,o,rfl⟩:=hO.addr oZ
 refine st func248 fun w0 => ?_
 refine gl [0] (fun (_:Nat)=>[(3,.int .i64 x),(4,.int .i64 1)]) (fun _=>[]) (fun _=>True) (fun _=>0) 0 True.intro ?_
 rintro n -
 refine gz ?_
 exact fin ⟨rfl,rfl⟩ aa
theorem aag (v:Value)(O:Chunk)(x:Int)(hO:Rd O 1 v 1 [.int .i64 x]):Ct 249 [v] [O] fun u Bs=>u = .int .i64 x/\Bs=[O]:=by
 obtain ⟨ad,c,rfl⟩:=hO.slice
 obtain ⟨g,o,rfl⟩:=hO.addr oZ
 refine st func249 fun w0 => ?_
 refine gl [0] (fun (_:Nat)=>[(3,.int .i64 x),(4,.int .i64 1)]) (fun _=>[]) (fun _=>True) (fun _=>0) 0 True.intro ?_
 rintro n -
 refine gz ?_
 exact fin ⟨rfl,rfl⟩ aa
end Go.Proofs.YtpabnmeponmonaaGreatDoor
namespace Go.Sl
def LW (m:Int)(ks:List Nat):List Pl:=ks.map fun k=>⟨0,lz m k⟩
theorem Qr {m:Int}{ks:List Nat}{i k:Nat}(h:ks[i]? = some k):(LW m ks)[i]? = some ⟨0,lz m k⟩:=by simp [LW,h]
end Go.Sl
namespace Go.Proofs.YtpabnmeponmonaaGreatDoor
theorem Qu (vO vF:Value)(O:Chunk):Ct 294 [vO,.int .i64 0,.int .i64 1,vF] [O] fun _ Bs=>Bs=[O]:=by
 refine st func294 fun w0 => ?_
 refine gl [0,1,2,3] (fun (_:Nat)=>[(8,.int .i64 1)]) (fun _=>[]) (fun _=>True) (fun _=>0) 0 True.intro ?_
 rintro n -
 refine gz ?_
 exact fin rfl aa
theorem U9 (vO vF:Value)(O:Chunk):Ct 286 [vO,.int .i64 1,vF] [O] fun _ Bs=>Bs=[O]:=by
 have h0:=Qu vO vF O
 refine st func286 fun w0 => ?_
 refine gl [0,1,2] (fun (_:Nat)=>[(6,.int .i64 20),(7,.int .i64 0),(8,.int .i64 20)]) (fun _=>[]) (fun _=>True) (fun _=>0) 0 True.intro ?_
 rintro n -
 refine gc h0 ?_
 rintro _ _ rfl
 refine gl [0,1,2] (fun (_:Nat)=>[(6,.int .i64 20)]) (fun _=>[]) (fun _=>True) (fun _=>0) 0 True.intro ?_
 rintro n2 -
 refine gz ?_
 exact fin rfl aa
theorem Qv (ad:Option Addr)(c:Nat)(vF:Value)(O:Chunk):Ct 250 [.slice ad 1 c,vF] [O] fun _ Bs=>Bs=[O]:=by
 have h0:=U9 (.slice ad 1 c) vF O
 refine st func250 fun w0 => ?_
 refine gc h0 ?_
 rintro _ _ rfl
 refine gz ?_
 exact fin rfl aa
theorem Qw (ad:Option Addr)(c:Nat)(O:Chunk)(s:Int)(hs:0<=s/\s<=40960)(hO:Rd O 1 (.slice ad 1 c) 1 [.int .i64 s]):Ct 100 [.slice ad 1 c,.func (.func 99) #[] #[]] [O] fun u Bs=>u = .bool false/\Bs=[O]:=by
 obtain ⟨g,o,rfl⟩:=hO.addr oZ
 refine st func100 fun w0 => ?_
 refine ge ?_
 refine gl [0,1,6,7] (fun (i:Nat)=>[(8,.int .i64 i)]) (fun _=>[]) (fun i=>i<=1) (fun i=>1 - i) 0 oZ ?_
 rintro i hi
 refine gi ?_ ?_ <;> intro br
 ·obtain rfl:i=0:=oZ
  refine ge ?_
  refine gn ?_
  exact ⟨1,by omega,by omega,ar,_,aa⟩
 ·refine gz ?_
  exact fin ⟨rfl,rfl⟩ aa
theorem HA (D:Chunk)(ad:Option Addr)(m c:Nat)(xs:List Value)(hR:Rd D 1 (.slice ad m c) m xs)(hm:1<=m/\m<=1000):Ct 101 [.slice ad m c] [D] fun u Bs=>∃bz c' D',u = .slice bz m c'/\aC D' 3 1 (.slice bz m c') m xs/\Bs=[D',D]:=by
 obtain ⟨g,o,rfl⟩:=hR.addr oZ
 refine st func101 fun w0 => ?_
 refine gm ?_;intro b
 have hB:aC [(b,ax [] 3)] 3 1 (.slice (some ⟨b,0,none⟩) 0 0) 0 []:=⟨rfl,by simp,.inr ⟨b,0,[],rfl,rfl,by omega,by simp [maxLen],rfl⟩⟩
 refine gp ?_;intro bz c' C' bF
 rw [Nat.zero_add,nil_append] at bF
 refine gz ?_
 exact fin ⟨bz,c',C',by rw [Nat.zero_add],bF,rfl⟩ aa
abbrev Tg (vS vF vW vM:Value):Obj:=ax [vS,vF,vW,vM] 203
def Gm (m:Int):List (Int×Value)->List (Int×List Nat)->Chunk->Prop
 | [],[],V=>V=[]
 | (q,v) :: L,(g,ks) :: M,V=>q=g/\∃D V',aC D 166 3 v ks.length ((LW m ks).flatMap Pl.lay)/\Gm m L M V'/\V=D++V'
 | _,_,_=>False
def qg (p:Nat)(s m:Int)(a:Rm)(A:Chunk):Prop:=∃dy cS DS tX cF DF Cu cW DW pf pw r L CF CW CM V,
 aC DS 3 1 (.slice dy 1 cS) 1 [.int .i64 s]/\aC DF 204 1 (.slice tX 1 cF) 1 [ptr pf]/\aC DW 204 1 (.slice Cu 1 cW) 1 [ptr pw] /\
 EM pf s m a.D CF/\Gl pw s m a.W CW/\Mp r .u64 L CM/\Gm m L a.fV V /\
 A=[(p,Tg (.slice dy 1 cS) (.slice tX 1 cF) (.slice Cu 1 cW) (.map (some r)))]++(DS++(DF++(DW++(CF++(CW++(CM++V))))))
section
variable (p:Nat)(s m:Int)(hm:8<=m/\m<=1000)(hs:1<=s/\s<=10240)(k:Nat)(hk:(k+1:Int)*m<=s)(D W:List Nat)
variable (dy:Option Addr)(cS:Nat)(DS:Chunk)(tX:Option Addr)(cF:Nat)(DF:Chunk)(Cu:Option Addr)(cW:Nat)(DW:Chunk)(pf pw r:Nat)(CF CW:Chunk)
variable (hS:aC DS 3 1 (.slice dy 1 cS) 1 [.int .i64 s])(hF:aC DF 204 1 (.slice tX 1 cF) 1 [ptr pf])(hW:aC DW 204 1 (.slice Cu 1 cW) 1 [ptr pw])(rU:EM pf s m D CF)(xc:Gl pw s m W CW)
theorem Qx (vS vF vW vM:Value)(dy:Option Addr)(cS:Nat):Ct 104 [ptr p,.int .i64 0] [[(p,Tg (.slice dy 1 cS) vF vW vM)]] fun u Bs=>u = .bool true/\Bs=[[(p,Tg (.slice dy 1 cS) vF vW vM)]]:=by
 refine st func104 fun w0 => ?_
 refine gz ?_
 exact fin ⟨rfl,rfl⟩ aa
include hm hs hk hS hF hW rU xc in
theorem Va (hD:k∈D)(hW':k∉W):Ct 204 [ptr p,.agg #[.int .i64 0,.int .i64 (k*m),.int .i64 m]] [[(p,Tg (.slice dy 1 cS) (.slice tX 1 cF) (.slice Cu 1 cW) (.map (some r)))],DS,DF,DW,CF,CW]
  fun u Bs=>u = .bool true/\Bs=[[(p,Tg (.slice dy 1 cS) (.slice tX 1 cF) (.slice Cu 1 cW) (.map (some r)))],DS,DF,DW,CF,CW]:=by
 have hSr:=hS.rd
 have LX:=hF.rd
 have hWr:=hW.rd
 obtain ⟨gS,oS,rfl⟩:=hSr.addr oZ
 obtain ⟨gF,oF,rfl⟩:=LX.addr oZ
 obtain ⟨gW,oW,rfl⟩:=hWr.addr oZ
 have h1:=Qx p (.slice none 0 0) (.slice (some ⟨gF,oF,none⟩) 1 cF) (.slice (some ⟨gW,oW,none⟩) 1 cW) (.map (some r)) (some ⟨gS,oS,none⟩) cS
 have h3:=LS pf s m hm.1 hs.2 k hk CF D rU hD
 have h4:=LU pw s m hm.1 hs.2 k hk CW W xc hW'
 refine st func204 fun w0 => ?_
 refine ga ?_;intro b3
 refine gd [0,4,8,13,16,20,24,28,32,36,40,44,48,52,56,60,64,68,72,76,84,88,81,95,98,102] ?_
 refine gc h1 ?_
 rintro _ _ ⟨rfl,rfl⟩
 refine gc (EO s hs) ?_
 rintro _ _ ⟨q,A,rfl,hA,rfl⟩
 have hx:=jZ hm.1 hs.2 hk
 have h2:=Qj q _ _ A hA (LM oZ) (lz m k) (by have:=Sp.az.1 hx.1;omega)
 rw [LR hm.1 hs.2 hk] at h2
 refine gc h2 ?_
 rintro _ _ ⟨rfl,rfl⟩
 refine gd [0,4,8,12,16,20,24,28,32,36,41,44,48,52,56,60,64,68,72,76,80,84,88,95,98,102,106] ?_
 refine gc h3 ?_
 rintro _ _ ⟨rfl,rfl⟩
 refine gc h4 ?_
 rintro _ _ ⟨rfl,rfl⟩
 refine gz ?_
 exact fin ⟨rfl,rfl⟩ aa
end
end Go.Proofs.YtpabnmeponmonaaGreatDoor
namespace Go.Sl
theorem q8:∀(N:Nat) (l:List Nat),l.Nodup->(∀k∈l,k<N)->l.length<=N
 | 0,l,_,h=>by
  cases l with
  | nil=>simp
  | cons x r=>exact absurd (h x (mem_cons_self ..)) oZ
 | N+1,l,hn,h=>by
  have h1:=q8 N (l.erase N) (hn.erase N) fun k hk=>by
   have h2:=(hn.mem_erase_iff).1 hk
   have:=h k h2.2
   omega
  have h3:l.length<=(l.erase N).length+1:=by
   by_cases c:N∈l
   ·rw [length_erase_of_mem c];omega
   ·rw [erase_of_not_mem c];omega
  omega
theorem Rm.Ok.lt {s m:Int}{a:Rm}(h:a.Ok s m)(hm:8<=m)(hs:s<=10240){k:Nat}(hk:k∈a.D):k<1280:=by
 have:=h.dl k hk
 have h2:=Int.mul_le_mul_of_nonneg_left hm (show (0:Int)<=k+1 by omega)
 omega
theorem Rm.Ok.acv {s m:Int}{a:Rm}(h:a.Ok s m)(hm:8<=m)(hs:s<=10240){g:Int×List Nat}(hg:g∈a.fV):g.2.length<=1280:=by
 obtain ⟨X,Y,hXY⟩:=append_of_mem hg
 have hn:=h.wn
 have jv:g.2.Sublist a.W:=by
  unfold Rm.W;rw [hXY,flatMap_append,flatMap_cons]
  exact (sublist_append_left _ _).trans (sublist_append_right _ _)
 exact q8 1280 g.2 (jv.nodup hn) fun k hk=>h.lt hm hs (h.wd k (jv.subset hk))
theorem Bf:∀(l:List (Int×List Nat)) (g:Int) (k:Nat),((mN l g k).flatMap (·.2)).Perm (l.flatMap (·.2)++[k])
 | [],g,k=>by simp [mN]
 | (j,l) :: r,g,k=>by
  unfold mN
  split
  ·simp only [flatMap_cons,append_assoc]
   exact List.Perm.append_left l (perm_append_comm)
  ·simp only [flatMap_cons,append_assoc]
   exact List.Perm.append_left l (Bf r g k)
theorem Rm.Vb {s m:Int}{a:Rm}(h:a.Ok s m)(g:Int){k:Nat}(hD:k∈a.D)(hW:k∉a.W):(a.free g k).Ok s m:=by
 have hp:=Bf a.fV g k
 refine ⟨h.dl, ?_,fun j hj => ?_⟩
 ·refine hp.nodup_iff.2 ?_
  rw [nodup_append]
  exact ⟨h.wn,by simp,fun x hx y hy=>by rw [mem_singleton.1 hy];rintro rfl;exact hW hx⟩
 ·rcases List.mem_append.1 (hp.mem_iff.1 hj) with q | q
  ·exact h.wd j q
  ·rw [mem_singleton.1 q];exact hD
end Go.Sl
namespace Go.Proofs.YtpabnmeponmonaaGreatDoor
theorem EM.congr {p:Nat}{s m:Int}{D D':List Nat}{A:Chunk}(h:EM p s m D A)(hd:∀k,k∈D↔k∈D'):EM p s m D' A:=by
 obtain ⟨l,h1,h2⟩:=h
 exact ⟨l,h1.congr fun n=>by simp only [frQ,hd],h2⟩
theorem Gl.congr {p:Nat}{s m:Int}{W W':List Nat}{A:Chunk}(h:Gl p s m W A)(hd:∀k,k∈W↔k∈W'):Gl p s m W' A:=by
 obtain ⟨l,h1,h2⟩:=h
 exact ⟨l,h1.congr fun n=>by simp only [wtQ,hd],h2⟩
abbrev Qy (D:Chunk)(v:Value)(m:Int)(ks:List Nat):Prop:=aC D 166 3 v ks.length ((LW m ks).flatMap Pl.lay)
theorem Gm.split {m:Int}(g:Int)(k:Nat):∀ {L:List (Int×Value)} {M:List (Int×List Nat)} {V:Chunk},Gm m L M V ->
  (kx L g=none/\∀v D,Qy D v m [k]->Gm m (iw L g v) (mN M g k) (V++D)) \/
  ∃v V1 D V2 ks,kx L g=some v/\(g,ks)∈M/\V=V1++(D++V2)/\Qy D v m ks/\∀v' D',Qy D' v' m (ks++[k])->Gm m (iw L g v') (mN M g k) (V1++(D'++V2))
 | [],[],V,h=>.inl ⟨rfl,fun v D hD=>by obtain rfl:V=[]:=h;exact ⟨rfl,D,[],hD,rfl,by simp⟩⟩
 | [],_ :: _,V,h=>h.elim
 | _ :: _,[],V,h=>h.elim
 | (q,v) :: L,(j,ks) :: M,V,h=>by
  obtain ⟨rfl,D,V',hD,hV,rfl⟩:=h
  by_cases c:q=g
  ·subst c
   refine .inr ⟨v,[],D,V',ks,by simp [kx],mem_cons_self ..,rfl,hD,fun v' D' eJ => ?_⟩
   simp only [iw,mN,if_pos]
   exact ⟨rfl,D',V',eJ,hV,rfl⟩
  ·rcases Gm.split g k hV with ⟨h1,h2⟩ | ⟨u,V1,E,V2,ls,h1,h0,rfl,h3,h4⟩
   ·refine .inl ⟨by simpa [kx,c] using h1,fun v' D' eJ => ?_⟩
    simp only [iw,mN,if_neg c]
    exact ⟨rfl,D,V'++D',hD,h2 v' D' eJ,by rw [append_assoc]⟩
   ·refine .inr ⟨u,D++V1,E,V2,ls,by simpa [kx,c] using h1,mem_cons_of_mem _ h0,by rw [append_assoc],h3,fun v' D' eJ => ?_⟩
    simp only [iw,mN,if_neg c]
    exact ⟨rfl,D,_,hD,h4 v' D' eJ,by rw [append_assoc]⟩
theorem Gm.keys {m:Int}:∀ {L:List (Int×Value)} {M:List (Int×List Nat)} {V:Chunk},Gm m L M V->M.map (·.1)=L.map (·.1)
 | [],[],_,_=>rfl
 | [],_ :: _,_,h=>h.elim
 | _ :: _,[],_,h=>h.elim
 | (q,v) :: L,(j,ks) :: M,V,h=>by
  obtain ⟨rfl,D,V',hD,hV,rfl⟩:=h
  simp only [map_cons,hV.keys]
theorem Gm.cut {m:Int}{q:Int}{v:Value}:∀ {L:List (Int×Value)} {M:List (Int×List Nat)} {V:Chunk},Gm m L M V->(L.map (·.1)).Nodup->kx L q=some v ->
  ∃ks V1 D V2,(q,ks)∈M/\V=V1++(D++V2)/\Qy D v m ks/\Gm m (iN L q) (M.filter fun g=>g.1 != q) (V1++V2)
 | [],_,V,_,_,hl=>by simp [kx] at hl
 | _ :: _,[],V,h,_,_=>h.elim
 | (p,u) :: L,(j,ks) :: M,V,h,hn,hl=>by
  obtain ⟨rfl,D,V',hD,hV,rfl⟩:=h
  rw [map_cons,nodup_cons] at hn
  by_cases c:p=q
  ·subst c
   have e:u=v:=by simpa [kx] using hl
   subst e
   refine ⟨ks,[],D,V',mem_cons_self ..,rfl,hD, ?_⟩
   have h1:iN ((p,u) :: L) p=L:=by
    simp only [iN,filter_cons,bne_self_eq_false,Bool.false_eq_true,if_false]
    rw [filter_eq_self];intro e he;simpa using fun h':e.1=p=>hn.1 (by rw [<-h'];exact mem_map_of_mem (f:=(·.1)) he)
   have h2:((p,ks) :: M).filter (fun g=>g.1 != p)=M:=by
    simp only [filter_cons,bne_self_eq_false,Bool.false_eq_true,if_false]
    rw [filter_eq_self];intro e he;simpa using fun h':e.1=p=>hn.1 (by rw [<-hV.keys,<-h'];exact mem_map_of_mem (f:=(·.1)) he)
   rw [h1,h2];exact hV
  ·obtain ⟨ls,V1,E,V2,h1,rfl,h3,h4⟩:=Gm.cut hV hn.2 (by simpa [kx,c] using hl)
   refine ⟨ls,D++V1,E,V2,mem_cons_of_mem _ h1,by rw [append_assoc],h3, ?_⟩
   have e1:iN ((p,u) :: L) q=(p,u) :: iN L q:=by simp [iN,c]
   have e2:((p,ks) :: M).filter (fun g=>g.1 != q)=(p,ks) :: M.filter (fun g=>g.1 != q):=by simp [c]
   rw [e1,e2]
   exact ⟨rfl,D,_,hD,h4,by rw [append_assoc]⟩
section
variable (p:Nat)(s m:Int)(hm:8<=m/\m<=1000)(hs:1<=s/\s<=10240)(a:Rm)(ha:a.Ok s m)(A:Chunk)(hA:qg p s m a A)
include hm hs ha hA
theorem Vc (g k:Nat)(hD:k∈a.D)(hW:k∉a.W):Ct 140 [ptr p,.agg #[.int .i64 0,.int .i64 (k*m),.int .i64 m],.int .u64 g] [A] fun u Bs=>u = .int .i64 0/\∃A',qg p s m (a.free g k) A'/\Bs=[A']:=by
 obtain ⟨dy,cS,DS,tX,cF,DF,Cu,cW,DW,pf,pw,r,L,CF,CW,CM,V,hS,hF,XP,rU,xc,hM,hG,rfl⟩:=hA
 have hk:=ha.dl k hD
 have XQ:=Va p s m hm hs k hk a.D a.W dy cS DS tX cF DF Cu cW DW pf pw r CF CW hS hF XP rU xc hD hW
 have Hw:=U6 pw s m hm.1 hs.2 k hk CW a.W xc hW
 have hWr:=XP.rd
 obtain ⟨gW,oW,rfl⟩:=hWr.addr oZ
 have qB:∀ {L' CM' V' CW'},Mp r .u64 L' CM'->Gm m L' (mN a.fV g k) V'->Gl pw s m (a.W++[k]) CW'->qg p s m (a.free g k) ([(p,Tg (.slice dy 1 cS) (.slice tX 1 cF) (.slice (some ⟨gW,oW,none⟩) 1 cW) (.map (some r)))]++(DS++(DF++(DW++(CF++(CW'++(CM'++V'))))))) :=
  fun h1 h2 h3=>⟨dy,cS,DS,tX,cF,DF,_,cW,DW,pf,pw,r,_,CF,_,_,_,hS,hF,XP,rU,h3.congr fun j=>(Bf a.fV g k).mem_iff.symm,h1,h2,rfl⟩
 have hB1:∀b0,Rd [(b0,ax (Pl.lay ⟨0,lz m k⟩) 166)] 3 (.slice (some ⟨b0,0,none⟩) 1 1) 1 (Pl.lay ⟨0,lz m k⟩):=fun b0=>ay rfl (by simp [Pl.lay,Value.oneCell']) oZ _
 rcases hG.split g k with ⟨hl,JF⟩ | ⟨v,V1,D,V2,ks,hl,jH,rfl,Cp,JF⟩
 ·refine st func140 fun w0 => ?_
  refine gs ?_
  refine ga ?_;intro b4
  refine gc XQ ?_
  rintro _ _ ⟨rfl,rfl⟩
  refine gc Hw ?_
  rintro _ _ ⟨rfl,CW',Qz,rfl⟩
  refine gd [0,4,8,12,16,20,24,28,32,36,40,44,49,53,59] ?_
  refine gm ?_;intro b0
  refine gp ?_;intro ad c C hC
  refine gu ?_;intro C' bF
  refine gz ?_
  exact fin ⟨rfl,_,qB bF (JF _ C hC) Qz,rfl⟩ aa
 ·have kI:ks.length<=1280:=ha.acv hm.1 hs.2 jH
  clear jH
  obtain ⟨KV,c0,rfl⟩:=Cp.slice
  refine st func140 fun w0 => ?_
  refine gs ?_
  refine ga ?_;intro b4
  refine gc XQ ?_
  rintro _ _ ⟨rfl,rfl⟩
  refine gc Hw ?_
  rintro _ _ ⟨rfl,CW',Qz,rfl⟩
  refine rQ [[(p,Tg (.slice dy 1 cS) (.slice tX 1 cF) (.slice (some ⟨gW,oW,none⟩) 1 cW) (.map (some r)))],[(b4,ax [.int .i64 0,.int .i64 (k*m),.int .i64 m] 166)],CM] [0,4,8,12,16,20,24,28,32,36,40,44,49,53,59] ?_
  refine gm ?_;intro b0
  refine gp ?_;intro ad c C hC
  refine gu ?_;intro C' bF
  refine gz ?_
  exact fin ⟨rfl,_,qB bF (JF _ C (by simpa [Qy,LW,Pl.lay,lz] using hC)) Qz,rfl⟩ aa
end
end Go.Proofs.YtpabnmeponmonaaGreatDoor
namespace Go.Sl
def lA (t:Int)(rest:List Int)(g:Int×List Nat):Bool:=!j6 t g.1||rest.contains g.1
def Gn (t:Int)(rest:List Int)(a:Rm):List (Int×List Nat):=a.fV.filter (lA t rest)
def iT (t:Int)(rest:List Int)(a:Rm):List Nat:=(a.fV.filter fun g => !lA t rest g).flatMap (·.2)
theorem y8.nodup {r it:Nat}{k:IntKind}{L rest:List (Int×Value)}{C D:Chunk}(h:y8 r it k L rest C D):(rest.map (·.1)).Nodup/\∀q∈rest.map (·.1),q∈L.map (·.1):=by
 obtain ⟨Ms,clock,since,seen,last,rfl,oG, -, -, -, -, -,rfl⟩:=h
 rw [map_map,map_map]
 refine ⟨(filter_sublist.map _).nodup oG.nk,fun q hq => ?_⟩
 obtain ⟨z,hz,rfl⟩:=mem_map.1 hq
 exact mem_map_of_mem (mem_filter.1 hz).1
theorem xd {L:List (Int×Value)}{q:Int}(h:q∉L.map (·.1)):iN L q=L:=by
 unfold iN
 rw [filter_eq_self]
 intro e he;simpa using fun h':e.1=q=>h (by rw [<-h'];exact mem_map_of_mem (f:=(·.1)) he)
section
variable {t:Int}{a:Rm}{X Y:List Int}{q:Int}
theorem JG (h:j6 t q=false)(g:Int×List Nat):lA t (X++q :: Y) g=lA t (X++Y) g:=by
 unfold lA
 by_cases c:g.1=q
 ·rw [c,h];rfl
 ·congr 1
  simp [c]
theorem aah (h:j6 t q=false):Gn t (X++q :: Y) a=Gn t (X++Y) a:=filter_congr fun g _=>JG h g
theorem QA (h:j6 t q=false):iT t (X++q :: Y) a=iT t (X++Y) a:=by
 unfold iT
 rw [show (fun g => !lA t (X++q :: Y) g)=fun g => !lA t (X++Y) g from funext fun g=>by rw [JG h g]]
theorem JH (h:j6 t q=true)(hn:q∉X++Y):(Gn t (X++q :: Y) a).filter (fun g=>g.1 != q)=Gn t (X++Y) a:=by
 unfold Gn
 rw [filter_filter]
 refine filter_congr fun g _ => ?_
 unfold lA
 by_cases c:g.1=q
 ·rw [c,h]
  have:(X++Y).contains q=false:=by simpa using hn
  rw [this];simp
 ·have e1:(g.1 != q)=true:=by simp [c]
  rw [e1,Bool.true_and]
  congr 1
  simp [c]
theorem xe {k:Nat}:k∈iT t X a↔∃g∈a.fV,j6 t g.1=true/\g.1∉X/\k∈g.2:=by
 simp only [iT,mem_flatMap,mem_filter,lA,Bool.not_or,Bool.not_not,Bool.and_eq_true,Bool.not_eq_true',contains_eq_mem,decide_eq_false_iff_not]
 constructor
 ·rintro ⟨g,⟨h1,h2,h3⟩,h4⟩;exact ⟨g,h1,h2,h3,h4⟩
 ·rintro ⟨g,h1,h2,h3,h4⟩;exact ⟨g,⟨h1,h2,h3⟩,h4⟩
theorem Bg {k:Nat}{ks:List Nat}(h:j6 t q=true)(hn:q∉X++Y)(hq:(q,ks)∈a.fV)(hu:∀g∈a.fV,g.1=q->g=(q,ks)):k∈iT t (X++Y) a↔k∈iT t (X++q :: Y) a\/k∈ks:=by
 rw [xe,xe]
 constructor
 ·rintro ⟨g,h1,h2,h3,h4⟩
  by_cases c:g.1=q
  ·rw [hu g h1 c] at h4;exact .inr h4
  ·exact .inl ⟨g,h1,h2,by simp only [List.mem_append,List.mem_cons,not_or] at h3 ⊢;exact ⟨h3.1,c,h3.2⟩,h4⟩
 ·rintro (⟨g,h1,h2,h3,h4⟩ | h4)
  ·exact ⟨g,h1,h2,by simp only [List.mem_append,List.mem_cons,not_or] at h3 ⊢;exact ⟨h3.1,h3.2.2⟩,h4⟩
  ·exact ⟨(q,ks),hq,h,hn,h4⟩
end
theorem Rm.Ok.one {s m:Int}{a:Rm}(h:a.Ok s m){g j:Int×List Nat}{k:Nat}(hg:g∈a.fV)(hj:j∈a.fV)(h1:k∈g.2)(h2:k∈j.2):g=j:=by
 obtain ⟨X,Y,e⟩:=append_of_mem hg
 have hn:=h.wn
 unfold Rm.W at hn
 rw [e,flatMap_append,flatMap_cons,nodup_append] at hn
 obtain ⟨-,dq,hn3⟩:=hn
 rw [nodup_append] at dq
 obtain ⟨-, -,hn4⟩:=dq
 rw [e] at hj
 rcases List.mem_append.1 hj with hj | hj
 ·exact absurd rfl (hn3 k (mem_flatMap.2 ⟨j,hj,h2⟩) k (mem_append_left _ h1))
 ·rcases List.mem_cons.1 hj with rfl | hj
  ·rfl
  ·exact absurd rfl (hn4 k h1 k (mem_flatMap.2 ⟨j,hj,h2⟩))
theorem Rm.Ok.nodup {s m:Int}{a:Rm}(h:a.Ok s m){g:Int×List Nat}(hg:g∈a.fV):g.2.Nodup:=by
 obtain ⟨X,Y,hXY⟩:=append_of_mem hg
 have jv:g.2.Sublist a.W:=by
  unfold Rm.W;rw [hXY,flatMap_append,flatMap_cons]
  exact (sublist_append_left _ _).trans (sublist_append_right _ _)
 exact jv.nodup h.wn
end Go.Sl
namespace Go.Proofs.YtpabnmeponmonaaGreatDoor
theorem Vd (p:Nat)(s m:Int)(hm:8<=m/\m<=1000)(hs:1<=s/\s<=10240)(a:Rm)(ha:a.Ok s m)(A:Chunk)(hA:qg p s m a A)(t:Nat)(ht:t<18446744073709551616) :
  Ct 141 [ptr p,.int .u64 t] [A] fun _ Bs=>∃A',qg p s m (a.sync t) A'/\Bs=[A']:=by
 obtain ⟨dy,cS,DS,tX,cF,DF,Cu,cW,DW,pf,pw,r,L0,CF,CW,CM,V,hS,hF,XP,rU,xc,hM,hG,rfl⟩:=hA
 have LX:=hF.rd
 have hWr:=XP.rd
 obtain ⟨gF,oF,rfl⟩:=LX.addr oZ
 obtain ⟨gW,oW,rfl⟩:=hWr.addr oZ
 have mA:=hG.keys
 have eF:=hM.nodup
 have acw:∀g∈a.fV,∀q ks,(q,ks)∈a.fV->g.1=q->g=(q,ks):=fun g hg q ks hq e=>by
  rw [<-mA] at eF
  obtain ⟨X,Y,hXY⟩:=append_of_mem hq
  rw [hXY,map_append,map_cons,nodup_append,nodup_cons] at eF
  obtain ⟨-,⟨n2, -⟩,n3⟩:=eF
  rw [hXY] at hg
  rcases List.mem_append.1 hg with hg | hg
  ·exact absurd e (n3 _ (mem_map_of_mem hg) _ (mem_cons_self ..))
  ·rcases List.mem_cons.1 hg with rfl | hg
   ·rfl
   ·exact absurd (by rw [<-e];exact mem_map_of_mem (f:=(·.1)) hg) n2
 refine st func141 fun w0 => ?_
 refine gs ?_
 refine gr ?_
 intro it DI hI
 refine gl [0,1,12] (fun (_:List (Int×Value)×List (Int×Value)×Chunk×Chunk×Chunk×Chunk×Chunk)=>[]) (fun (_,_,CF,CW,CM,DI,V)=>[[(p,Tg (.slice dy 1 cS) (.slice (some ⟨gF,oF,none⟩) 1 cF) (.slice (some ⟨gW,oW,none⟩) 1 cW) (.map (some r)))],DF,DW,CF,CW,CM,DI,V]) (fun (L,rest,CF,CW,CM,DI,V)=>y8 r it .u64 L rest CM DI/\Gm m L (Gn t (rest.map (·.1)) a) V/\EM pf s m (a.D.filter fun k => !(iT t (rest.map (·.1)) a).contains k) CF/\Gl pw s m ((Gn t (rest.map (·.1)) a).flatMap (·.2)) CW) (fun (_,rest,_)=>rest.length) (L0,L0,CF,CW,CM,DI,V) ?_ ?_
 ·have h1:Gn t (L0.map (·.1)) a=a.fV:=filter_eq_self.2 fun g hg=>by
   unfold lA
   have:(L0.map (·.1)).contains g.1=true:=by rw [<-mA];simpa using mem_map_of_mem (f:=(·.1)) hg
   rw [this,Bool.or_true]
  have h2:iT t (L0.map (·.1)) a=[]:=by
   unfold iT
   rw [filter_eq_nil_iff.2 fun g hg => ?_]; · rfl
   unfold lA
   have:(L0.map (·.1)).contains g.1=true:=by rw [<-mA];simpa using mem_map_of_mem (f:=(·.1)) hg
   rw [this,Bool.or_true];simp
  refine ⟨hI,by rw [h1];exact hG,rU.congr fun k=>by rw [h2];simp,by rw [h1];exact xc⟩
 ·clear hG rU xc hI hM eF mA
  rintro ⟨L,rest,CF,CW,CM,DI,V⟩ ⟨hI,hG,rU,xc⟩
  have hIn:=hI.nodup
  have hLn:=hI.mp.nodup
  refine OT ?_ ?_
  ·rintro rfl
   refine gz ?_
   have e1:Gn t [] a=(a.sync t).fV:=filter_congr fun g _=>by simp [lA]
   have e2:∀k,k∈a.D.filter (fun k => !(iT t [] a).contains k)↔k∈(a.sync t).D:=fun k=>by
    simp only [Rm.sync,mem_filter,iT,lA]
    simp
   refine fin ⟨_,⟨dy,cS,DS,_,cF,DF,_,cW,DW,pf,pw,r,L,CF,CW,CM,V,hS,hF,XP,rU.congr e2,by rw [show (a.sync t).W=(Gn t [] a).flatMap (·.2) by rw [e1];rfl];exact xc,hI.mp,by rw [<-e1];exact hG,rfl⟩,rfl⟩ aa
  ·rintro X q v Y HB rfl iy rO hE
   refine OU ?_
   have Th:(X++Y).map (·.1)=X.map (·.1)++Y.map (·.1):=map_append
   have hky:(X++(q,v) :: Y).map (·.1)=X.map (·.1)++q :: Y.map (·.1):=by simp
   rw [hky] at hG rU xc hIn
   have NB:q∉X.map (·.1)++Y.map (·.1):=by
    have:=hIn.1
    rw [nodup_append,nodup_cons] at this
    obtain ⟨-,⟨n2, -⟩,n3⟩:=this
    simp only [List.mem_append,not_or]
    exact ⟨fun h=>n3 q h q (mem_cons_self ..) rfl,n2⟩
   have hlen:(X++Y).length<(X++(q,v) :: Y).length:=by simp only [length_append,length_cons];omega
   have QB:q∈L.map (·.1):=hIn.2 q (by simp)
   have stay:j6 t q=false->Gm m L (Gn t ((X++Y).map (·.1)) a) V/\EM pf s m (a.D.filter fun k => !(iT t ((X++Y).map (·.1)) a).contains k) CF/\Gl pw s m ((Gn t ((X++Y).map (·.1)) a).flatMap (·.2)) CW:=fun h=>by
    rw [Th,<-aah h,<-QA h];exact ⟨hG,rU,xc⟩
   refine gg ?_ ?_ <;> intro h1
   ·obtain ⟨k1,k2,k3⟩:=stay (by simp only [j6,decide_eq_false_iff_not];omega)
    refine gn ?_
    exact ⟨(L,X++Y,CF,CW,CM,HB,V),⟨rO,k1,k2,k3⟩,hlen,ar,_,aa⟩
   ·have ht2:IntKind.u64.wrap ((t:Int) - 2)=(t:Int) - 2:=by rw [IntWalk.u64_in _ oZ]
    refine gi ?_ ?_ <;> intro h2
    ·obtain ⟨k1,k2,k3⟩:=stay (by simp only [j6,decide_eq_false_iff_not];omega)
     refine gn ?_
     exact ⟨(L,X++Y,CF,CW,CM,HB,V),⟨rO,k1,k2,k3⟩,hlen,ar,_,aa⟩
    ·have hrp:j6 t q=true:=by simp only [j6,decide_eq_true_eq];omega
     clear stay
     obtain ⟨ks,V1,D,V2,jH,rfl,hD,zp⟩:=hG.cut hLn iy
     rw [JH hrp NB,<-Th] at zp
     have ER:(q,ks)∈a.fV:=(mem_filter.1 jH).1
     have hu:=fun g hg=>acw g hg q ks ER
     have kI:ks.length<=1280:=ha.acv hm.1 hs.2 ER
     have afb:ks.Nodup:=ha.nodup ER
     have Gi:∀k∈ks,k∈a.D:=fun k hk=>ha.wd k (mem_flatMap.2 ⟨_,ER,hk⟩)
     have Gb:∀k∈ks,k∈a.D.filter fun k => !(iT t (X.map (·.1)++q :: Y.map (·.1)) a).contains k:=fun k hk=>by
      refine mem_filter.2 ⟨Gi k hk, ?_⟩
      simp only [contains_eq_mem,Bool.not_eq_true',decide_eq_false_iff_not]
      intro h
      obtain ⟨g,g1,g2,g3,g4⟩:=xe.1 h
      have:=ha.one g1 ER g4 hk
      rw [this] at g3
      exact g3 (by simp)
     have hW0:∀k∈ks,k∈(Gn t (X.map (·.1)++q :: Y.map (·.1)) a).flatMap (·.2):=fun k hk=>mem_flatMap.2 ⟨_,jH,hk⟩
     have acx:∀k,(k∈(Gn t (X.map (·.1)++q :: Y.map (·.1)) a).flatMap (·.2)/\k∉ks)↔k∈(Gn t ((X++Y).map (·.1)) a).flatMap (·.2):=fun k=>by
      rw [Th,<-JH hrp NB]
      simp only [mem_flatMap,mem_filter,bne_iff_ne,ne_eq]
      constructor
      ·rintro ⟨⟨g,g1,g2⟩,g3⟩
       refine ⟨g,⟨g1,fun e=>g3 ?_⟩,g2⟩
       rw [hu g (mem_filter.1 g1).1 e] at g2;exact g2
      ·rintro ⟨g,⟨g1,g2⟩,g3⟩
       refine ⟨⟨g,g1,g3⟩,fun e=>g2 ?_⟩
       rw [ha.one (mem_filter.1 g1).1 ER g3 e]
     have acy:∀k,(k∈(a.D.filter fun k => !(iT t (X.map (·.1)++q :: Y.map (·.1)) a).contains k)/\k∉ks)↔k∈a.D.filter fun k => !(iT t ((X++Y).map (·.1)) a).contains k:=fun k=>by
      rw [Th]
      have:=Bg (k:=k) hrp NB ER hu
      simp only [mem_filter,contains_eq_mem,Bool.not_eq_true',decide_eq_false_iff_not,this,not_or,and_assoc]
     have acz:(kx L q).isSome=true:=by rw [iy];rfl
     have qd:iN (X++Y) q=X++Y:=xd (by rw [Th];exact NB)
     generalize (a.D.filter fun k => !(iT t (X.map (·.1)++q :: Y.map (·.1)) a).contains k)=D0 at *
     generalize (Gn t (X.map (·.1)++q :: Y.map (·.1)) a).flatMap (·.2)=W0 at *
     clear hG hE hI jH hu ER
     have jW:=hD.rd
     obtain ⟨Cy,cD,rfl⟩:=hD.slice
     refine gs ?_
     refine gl [0,1,4,12,26,27] (fun ((i,_):Nat×Chunk×Chunk)=>[(28,.int .i64 i)]) (fun (_,CF,CW)=>[CF,CW]) (fun (i,CF,CW)=>i<=ks.length/\EM pf s m (D0.filter fun k => !(ks.take i).contains k) CF/\Gl pw s m (W0.filter fun k => !(ks.take i).contains k) CW) (fun (i,_)=>ks.length - i) (0,CF,CW) ⟨by omega,rU.congr fun k=>by simp,xc.congr fun k=>by simp⟩ ?_
     rintro ⟨i,CF,CW⟩ ⟨hi,rU,xc⟩
     refine gi ?_ ?_ <;> intro br
     ·have bh:i<ks.length:=oZ
      obtain ⟨k,hk⟩:∃k,k=ks[i]:=⟨_,rfl⟩
      have hx:ks[i]? = some k:=by rw [hk];exact getElem?_eq_getElem bh
      have hkm:k∈ks:=mem_of_getElem? hx
      have rV:k∉ks.take i:=fun h=>by
       obtain ⟨j,hj,e⟩:=getElem_of_mem h
       rw [length_take] at hj
       rw [getElem_take] at e
       have:=(getElem_inj afb).1 (e.trans hk)
       omega
      have EG:∀j,j∈ks.take (i+1)↔j∈ks.take i\/j=k:=fun j=>by
       rw [take_add_one,hx];simp
      obtain ⟨gD,oD,rfl⟩:=jW.addr oZ
      have vg:=av Pl.ak (LW m ks) i _ (Qr hx)
      have Ti:=ha.dl k (Gi k hkm)
      refine ga ?_;intro b7
      refine gc (U7 pw s m hm.1 hs.2 k Ti CW _ xc (mem_filter.2 ⟨hW0 k hkm,by simpa using rV⟩)) ?_
      rintro _ _ ⟨rfl,CW',Qz,rfl⟩
      refine gc (Qp pf s m hm.1 hs.2 k Ti CF _ rU (mem_filter.2 ⟨Gb k hkm,by simpa using rV⟩)) ?_
      rintro _ _ ⟨rfl,xf,QC,rfl⟩
      refine gn ?_
      refine ⟨(i+1,xf,CW'),⟨by omega,QC.congr fun j => ?_,Qz.congr fun j => ?_⟩,sOZ,ar,_,aa⟩
      ·simp only [mem_filter,contains_eq_mem,Bool.not_eq_true',decide_eq_false_iff_not,bne_iff_ne,ne_eq,EG,not_or,and_assoc]
      ·simp only [mem_filter,contains_eq_mem,Bool.not_eq_true',decide_eq_false_iff_not,bne_iff_ne,ne_eq,EG,not_or,and_assoc]
     ·obtain rfl:i=ks.length:=oZ
      rw [take_length] at rU xc
      refine gx ?_
      intro CM' JI
      rw [qd] at JI
      refine gn ?_
      refine ⟨(_,X++Y,CF,CW,CM',HB,V1++V2),⟨JI,zp,rU.congr fun j => ?_,xc.congr fun j => ?_⟩,hlen,ar,_,aa⟩
      ·rw [<-acy];simp only [mem_filter,contains_eq_mem,Bool.not_eq_true',decide_eq_false_iff_not]
      ·rw [<-acx];simp only [mem_filter,contains_eq_mem,Bool.not_eq_true',decide_eq_false_iff_not]
theorem Ve (p:Nat)(s m:Int)(hm:8<=m/\m<=1000)(hs:1<=s/\s<=10240)(a:Rm)(A:Chunk)(hA:qg p s m a A)(hr:∃k:Nat,k∉a.D/\(k+1:Int)*m<=s)(O:Chunk)(ad:Option Addr)(c:Nat)(hO:Rd O 1 (.slice ad 1 c) 1 [.int .i64 m]) :
  Ct 188 [ptr p,.slice ad 1 c] [A,O] fun u Bs=>∃k:Nat,k∉a.D/\(k+1:Int)*m<=s/\u = .tuple #[.agg #[.int .i64 0,.int .i64 (k*m),.int .i64 m],.int .i64 0]/\∃A',qg p s m (a.take k) A'/\Bs=[A',O]:=by
 obtain ⟨dy,cS,DS,tX,cF,DF,Cu,cW,DW,pf,pw,r,L,CF,CW,CM,V,hS,hF,XP,rU,xc,hM,hG,rfl⟩:=hA
 have LX:=hF.rd
 obtain ⟨gF,oF,rfl⟩:=LX.addr oZ
 have afc:=aaf (.slice ad 1 c) O m hO
 have aai:=aag (.slice ad 1 c) O m hO
 have acA:=Qq pf s m hm hs.2 CF a.D rU hr
 obtain ⟨gO,oO,rfl⟩:=hO.addr oZ
 refine st func188 fun w0 => ?_
 refine gs ?_
 refine ga ?_;intro b2
 refine ga ?_;intro b4
 refine gc afc ?_
 rintro _ _ ⟨rfl,rfl⟩
 refine gc aai ?_
 rintro _ _ ⟨rfl,rfl⟩
 refine gl [1,2,4,33,34] (fun ((i,v6,_):Nat×Value×Chunk)=>[(35,.int .i64 i),(6,v6)]) (fun (_,_,C6)=>[C6]) (fun (i,v6,C6)=>i<=1/\(i=0->v6 = .slice none 0 0/\C6=[])/\(i=1->∃G5 c6,v6 = .slice G5 1 c6/\aC C6 3 1 v6 1 [.int .i64 0])) (fun (i,_)=>1 - i) (0,.slice none 0 0,[]) ⟨by omega,fun _=>⟨rfl,rfl⟩,fun h=>by omega⟩ ?_
 rintro ⟨i,v6,C6⟩ ⟨hi,h0,h1⟩
 refine gi ?_ ?_ <;> intro br
 ·obtain rfl:i=0:=oZ
  obtain ⟨rfl,rfl⟩:=h0 rfl
  refine gm ?_;intro b44
  refine gp ?_;intro G5 c6 C6 hC6
  refine gn ?_
  exact ⟨(1,_,C6),⟨by omega,fun h=>by omega,fun _=>⟨G5,c6,rfl,hC6⟩⟩,sOZ,ar,_,aa⟩
 ·obtain rfl:i=1:=oZ
  obtain ⟨G5,c6,rfl,hC6⟩:=h1 rfl
  have Gf:=hC6.rd
  obtain ⟨g6,o6,rfl⟩:=Gf.addr oZ
  refine gc (Qv (some ⟨g6,o6,none⟩) c6 (.func (.func 251) #[] #[ptr b2]) C6) ?_
  rintro _ _ rfl
  refine gl [1,2,4,50,51] (fun (_:Nat)=>[(52,.int .i64 0)]) (fun _=>[]) (fun _=>True) (fun _=>0) 0 True.intro ?_
  rintro n -
  refine gd [0,4,8,12,16,20,24,28,32,36,40,47,50,54,58,62,66] ?_
  refine gc acA ?_
  rintro _ _ ⟨k,hk,Gp,rfl,rfl⟩
  refine ga ?_;intro b13
  refine rQ [[(p,Tg (.slice dy 1 cS) (.slice (some ⟨gF,oF,none⟩) 1 cF) (.slice Cu 1 cW) (.map (some r)))],DF,[(b13,ax [.int .i64 (k*m),.int .i64 m] 164)],[(b2,ax [ptr p] 70)]] [0,4,8,12,16,20,24,28,32,36,40,45,51,54] ?_
  refine gc (EN pf s m hm.1 hs.2 k Gp CF a.D rU hk) ?_
  rintro _ _ ⟨rfl,xf,QC,rfl⟩
  refine gz ?_
  exact fin ⟨k,hk,Gp,rfl,_,⟨dy,cS,DS,_,cF,DF,Cu,cW,DW,pf,pw,r,L,xf,CW,CM,V,hS,hF,XP,QC,xc,hM,hG,rfl⟩,rfl⟩ aa
theorem HC (s m:Int)(hm:8<=m/\m<=1000)(hs:1<=s/\s<=10240)(O:Chunk)(ad:Option Addr)(c:Nat)(hO:Rd O 1 (.slice ad 1 c) 1 [.int .i64 s])(ks:List Nat)(hn:ks.Nodup)(hk:∀k∈ks,(k+1:Int)*m<=s)(U:Chunk)(adU:Option Addr)(cU:Nat)(hU:Rd U 3 (.slice adU ks.length cU) ks.length ((LW m ks).flatMap Pl.lay)) :
  Ct 42 [.slice ad 1 c,.slice adU ks.length cU] [O,U] fun u Bs=>∃p A,u = .tuple #[ptr p,.int .i64 0]/\qg p s m ⟨ks,[]⟩ A/\Bs=[A,O,U]:=by
 have kI:ks.length<=1280:=q8 1280 ks hn fun k h=>by
  have:=hk k h
  have h2:=Int.mul_le_mul_of_nonneg_left hm.1 (show (0:Int)<=k+1 by omega)
  omega
 have h1:=Qw ad c O s oZ hO
 have h2:=HA O ad 1 c _ hO oZ
 obtain ⟨gO,oO,rfl⟩:=hO.addr oZ
 refine st func42 fun w0 => ?_
 refine gc h1 ?_
 rintro _ _ ⟨rfl,rfl⟩
 refine gc h2 ?_
 rintro _ _ ⟨dy,cS,DS,rfl,hS,rfl⟩
 refine vY .u64 ?_;intro r CM hM
 refine ga ?_;intro p
 refine gl [0,1,7,30,31] (fun ((i,_):Nat×Value×Value×Chunk×Chunk×Chunk×Chunk)=>[(32,.int .i64 i)]) (fun (_,vF,vW,DF,DW,CF,CW)=>[[(p,Tg (.slice dy 1 cS) vF vW (.map (some r)))],DF,DW,CF,CW]) (fun (i,vF,vW,DF,DW,CF,CW)=>i<=1/\(i=0->vF = .slice none 0 0/\vW = .slice none 0 0/\DF=[]/\DW=[]/\CF=[]/\CW=[])/\(i=1->∃tX cF Cu cW pf pw,vF = .slice tX 1 cF/\vW = .slice Cu 1 cW/\aC DF 204 1 vF 1 [ptr pf]/\aC DW 204 1 vW 1 [ptr pw]/\EM pf s m [] CF/\Gl pw s m [] CW)) (fun (i,_)=>1 - i) (0,.slice none 0 0,.slice none 0 0,[],[],[],[]) ⟨by omega,fun _=>⟨rfl,rfl,rfl,rfl,rfl,rfl⟩,fun h=>by omega⟩ ?_
 rintro ⟨i,vF,vW,DF,DW,CF,CW⟩ ⟨hi,e0,e1⟩
 refine gi ?_ ?_ <;> intro br
 ·obtain rfl:i=0:=oZ
  obtain ⟨rfl,rfl,rfl,rfl,rfl,rfl⟩:=e0 rfl
  refine gd [0,4,8,12,16,20,25,29,33,36,40,47] ?_
  refine gc (LV s m hs) ?_
  rintro _ _ ⟨pf,CF,rfl,rU,rfl⟩
  refine gm ?_;intro b43
  refine gp ?_;intro tX cF DF hF
  refine gd [0,4,8,12,16,21,25,29,32,36,43] ?_
  refine gc (U8 s m) ?_
  rintro _ _ ⟨pw,CW,rfl,xc,rfl⟩
  refine gm ?_;intro b53
  refine gp ?_;intro Cu cW DW hW
  refine gn ?_
  exact ⟨(1,_,_,DF,DW,CF,CW),⟨by omega,fun h=>oZ,fun _=>⟨tX,cF,Cu,cW,pf,pw,rfl,rfl,hF,hW,rU,xc⟩⟩,sOZ,ar,_,aa⟩
 ·obtain rfl:i=1:=oZ
  obtain ⟨tX,cF,Cu,cW,pf,pw,rfl,rfl,hF,hW,rU,xc⟩:=e1 rfl
  have LX:=hF.rd
  obtain ⟨gF,oF,rfl⟩:=LX.addr oZ
  refine gl [7,58,59] (fun ((i,_):Nat×Chunk)=>[(60,.int .i64 i)]) (fun (_,CF)=>[CF]) (fun (i,CF)=>i<=ks.length/\EM pf s m (ks.take i) CF) (fun (i,_)=>ks.length - i) (0,CF) ⟨by omega,rU⟩ ?_
  rintro ⟨i,CF⟩ ⟨hi,rU⟩
  refine gi ?_ ?_ <;> intro br
  ·have bh:i<ks.length:=oZ
   obtain ⟨k,Th⟩:∃k,k=ks[i]:=⟨_,rfl⟩
   have hx:ks[i]? = some k:=by rw [Th];exact getElem?_eq_getElem bh
   have Gp:=hk k (mem_of_getElem? hx)
   have rV:k∉ks.take i:=fun h=>by
    obtain ⟨j,hj,e⟩:=getElem_of_mem h
    rw [length_take] at hj
    rw [getElem_take] at e
    have:=(getElem_inj hn).1 (e.trans Th)
    omega
   obtain ⟨gU,oU,rfl⟩:=hU.addr oZ
   have vg:=av Pl.ak (LW m ks) i _ (Qr hx)
   refine ga ?_;intro b11
   refine gd [0,4,8,13,16,20,24,28,32,36,40,44,48,52,56,60,67,70,74] ?_
   refine gc (Qx p (.slice none 0 0) _ _ _ dy cS) ?_
   rintro _ _ ⟨rfl,rfl⟩
   refine gc (EN pf s m hm.1 hs.2 k Gp CF _ rU rV) ?_
   rintro _ _ ⟨rfl,xf,QC,rfl⟩
   refine gn ?_
   refine ⟨(i+1,xf),⟨by omega,QC.congr fun j => ?_⟩,sOZ,ar,_,aa⟩
   rw [take_add_one,hx];simp [or_comm]
  ·obtain rfl:i=ks.length:=oZ
   rw [take_length] at rU
   refine gz ?_
   exact fin ⟨p,_,rfl,⟨dy,cS,DS,_,cF,DF,Cu,cW,DW,pf,pw,r,[],CF,CW,CM,[],hS,hF,hW,rU,xc,hM,rfl,rfl⟩,rfl⟩ aa
theorem zq (t pool:Nat)(jj:Option Addr)(mT cT:Nat)(vI vL vD:Value)(no i j:Nat):Ct 36 [ptr t,.int .i64 i,.int .i64 j] [[(t,EI pool (.slice jj mT cT) vI vL vD no)]] fun u Bs=>u = .agg #[.int .u64 pool,.slice jj mT cT,.int .i64 i,.int .i64 j]/\Bs=[[(t,EI pool (.slice jj mT cT) vI vL vD no)]]:=by
 refine st func36 fun w0 => ?_
 refine ga ?_;intro b6
 refine gz ?_
 exact fin ⟨rfl,rfl⟩ aa
theorem zr (t pool:Nat)(tp:Tp)(w:Nat)(hw:tp.leaves=w/\w<=5)(jj:Option Addr)(cT:Nat)(DT:Chunk)(hT:aC DT 23 3 (.slice jj 1 cT) 1 tp.lay)(vI:Value)(no:Nat) :
  Ct 37 [ptr t] [[(t,EI pool (.slice jj 1 cT) vI (.slice none 0 0) (.slice none 0 0) no)],DT] fun _ Bs=>∃kB cL DL gl Cy cD DD gd,aC DL 113 1 (.slice kB 1 cL) 1 [.slice (some ⟨gl,0,none⟩) w w]/\aC DD 39 1 (.slice Cy 1 cD) 1 [.slice (some ⟨gd,0,none⟩) w w] /\
   Bs=[[(t,EI pool (.slice jj 1 cT) vI (.slice kB 1 cL) (.slice Cy 1 cD) no)],DT,DL,[(gl,ax (replicate w (.pointer none)) 110)],DD,[(gd,ax (replicate w (.pointer none)) 56)]]:=by
 have hTr:=hT.rd
 obtain ⟨gT,oT,rfl⟩:=hTr.addr oZ
 have hsT:Sub (0*3) tp.lay tp.lay:=av Tp.ak [tp] 0 tp rfl
 obtain ⟨kd,lv,se⟩:=tp
 obtain ⟨rfl,hw⟩:=hw
 refine st func37 fun w0 => ?_
 refine gl [0,7,8] (fun ((j,_):Nat×Value×Value×Chunk×Chunk×Chunk×Chunk)=>[(9,.int .i64 j)]) (fun (_,vL,vD,DL,Dl,DD,Dd)=>[[(t,EI pool (.slice (some ⟨gT,oT,none⟩) 1 cT) vI vL vD no)],DL,Dl,DD,Dd]) (fun (j,vL,vD,DL,Dl,DD,Dd)=>j<=1/\(j=0->vL = .slice none 0 0/\vD = .slice none 0 0/\DL=[]/\Dl=[]/\DD=[]/\Dd=[])/\(j=1->∃kB cL gl Cy cD gd,vL = .slice kB 1 cL/\vD = .slice Cy 1 cD/\aC DL 113 1 (.slice kB 1 cL) 1 [.slice (some ⟨gl,0,none⟩) w w]/\aC DD 39 1 (.slice Cy 1 cD) 1 [.slice (some ⟨gd,0,none⟩) w w]/\Dl=[(gl,ax (replicate w (.pointer none)) 110)]/\Dd=[(gd,ax (replicate w (.pointer none)) 56)])) (fun (j,_)=>1 - j) (0,.slice none 0 0,.slice none 0 0,[],[],[],[]) ⟨by omega,(fun _=>⟨rfl,rfl,rfl,rfl,rfl,rfl⟩),(fun h=>by cases h)⟩ ?_
 rintro ⟨j,vL,vD,DL,Dl,DD,Dd⟩ ⟨hj,h0,h1⟩
 refine gi ?_ ?_ <;> intro br
 ·obtain rfl:j=0:=oZ
  obtain ⟨rfl,rfl,rfl,rfl,rfl,rfl⟩:=h0 rfl
  refine ga ?_;intro b3
  refine gd [0,4,8,12,16,20,24,29,33,37,40,44,51] ?_
  refine gm ?_;intro mC
  refine gm ?_;intro b21
  refine gp ?_;intro kB cL DL ES
  refine gd [0,4,8,12,16,20,24,29,33,37,40,44,51] ?_
  refine gm ?_;intro oR
  refine gm ?_;intro b33
  refine gp ?_;intro Cy cD DD NC
  refine gn ?_
  exact ⟨(1,_,_,DL,_,DD,_),⟨by omega,(fun h=>by cases h),(fun _=>⟨kB,cL,mC,Cy,cD,oR,rfl,rfl,ES,NC,rfl,rfl⟩)⟩,sOZ,ar,_,aa⟩
 ·obtain rfl:j=1:=oZ
  obtain ⟨kB,cL,mC,Cy,cD,oR,rfl,rfl,ES,NC,rfl,rfl⟩:=h1 rfl
  refine gz ?_
  exact fin ⟨kB,cL,DL,mC,Cy,cD,DD,oR,ES,NC,rfl⟩ aa
theorem ET (p:Nat)(qs:List Nat)(t pool:Nat)(tp:Tp)(pr:Bool)(n:Nat)(ls:List (Option Lv))(ok:dj tp pr n ls.length)(hall:∀x∈ls,x≠none)(R:Rk)(C L:Chunk)(hC:bj p qs R C)(ho:dE qs R n ls)(hL:iR (fun k=>⟨pool,[tp],0,k⟩) 0 ls L)
  (jj:Option Addr) (cT:Nat) (DT:Chunk) (hT:aC DT 23 3 (.slice jj 1 cT) 1 tp.lay) (kB:Option Addr) (cL:Nat) (DL:Chunk) (pO:Option Addr) (cl:Nat) (Dl:Chunk) (ES:aC DL 113 1 (.slice kB 1 cL) 1 [.slice pO ls.length cl]) (zt:aC Dl 110 1 (.slice pO ls.length cl) ls.length (ls.map iQ)) (vD:Value) (DD:Chunk) (no:Nat) :
  Ct 41 [ptr t] [[(t,EI pool (.slice jj 1 cT) (.slice none 0 0) (.slice kB 1 cL) vD no)],DT,DL,Dl,DD,C,L] fun u Bs=>u = .int .i64 0/\∃V,iZ t pool tp pr n ls no V/\Bs=[V,C]:=by
 have hn:=ok.hn
 have kA:=ok.hw
 have htp:=ok.ht
 have Gi:=ok.hk
 have hTr:=hT.rd
 obtain ⟨gT,oT,rfl⟩:=hTr.addr oZ
 have JJ:=ES.rd
 obtain ⟨gL,oL,rfl⟩:=JJ.addr oZ
 have rS:[Value.slice pO ls.length cl][0]? = some (.slice pO ls.length cl):=rfl
 have yn:=zt.rd
 have hsT:Sub (0*3) tp.lay tp.lay:=av Tp.ak [tp] 0 tp rfl
 have hcn:ls.countP (·.isNone)<=1:=by
  have:ls.countP (·.isNone)=0:=countP_eq_zero.2 fun o rT=>by
   rcases o with _ | x
   ·exact absurd rfl (hall _ rT)
   ·simp
  omega
 have hex:∃x,some x∈ls:=by
  obtain ⟨ox,hx⟩:=eC (l:=ls) (i:=0) oZ
  rcases ox with _ | x
  ·exact absurd rfl (hall _ (mem_of_getElem? hx))
  ·exact ⟨x,mem_of_getElem? hx⟩
 refine st func41 fun w0 => ?_
 refine gl [0,12,13] (fun ((j,_):Nat×Value×Chunk×Chunk)=>[(14,.int .i64 j)]) (fun (_,vI,DI,M)=>[[(t,EI pool (.slice (some ⟨gT,oT,none⟩) 1 cT) vI (.slice (some ⟨gL,oL,none⟩) 1 cL) vD no)],DI,M]) (fun (j,vI,DI,M)=>j<=1/\(j=0->vI = .slice none 0 0/\DI=[]/\M=[])/\(j=1->∃m eb cI,vI = .slice eb 1 cI/\aC DI 195 1 (.slice eb 1 cI) 1 [JA pr m]/\DvC pr m ls (n - 292) M)) (fun (j,_)=>1 - j) (0,.slice none 0 0,[],[]) ⟨by omega,(fun _=>⟨rfl,rfl,rfl⟩),(fun h=>by cases h)⟩ ?_
 rintro ⟨j,vI,DI,M⟩ ⟨hj,h0,h1⟩
 refine gi ?_ ?_ <;> intro br
 ·obtain rfl:j=0:=oZ
  obtain ⟨rfl,rfl,rfl⟩:=h0 rfl
  refine ga ?_;intro b4
  cases pr with
  | true =>
   have hk3:tp.kind=3:=by simpa using Gi
   refine gc (Z4 p qs n ls _ hn ⟨ok.hp rfl,kA.2⟩ R C L hC hL ho hcn Dl pO cl yn) ?_
   rintro _ _ ⟨m,M,rfl,hM,rfl⟩
   refine ge ?_
   refine gmi ?_
   refine gta ?_
   refine gm ?_;intro b66
   refine gp ?_;intro eb cI DI hDI
   refine gn ?_
   exact ⟨(1,_,DI,M),⟨by omega,(fun h=>by cases h),(fun _=>⟨m,eb,cI,rfl,hDI,hM⟩)⟩,sOZ,ar,_,aa⟩
  | false =>
   have hk3:tp.kind≠3:=by simpa using Gi
   refine gc (ZY p qs n ls _ hn kA R C L hC hL ho hex Dl pO cl yn) ?_
   rintro _ _ ⟨m,M,rfl,hM,rfl⟩
   refine ge ?_
   refine gmi ?_
   refine gta ?_
   refine gm ?_;intro b66
   refine gp ?_;intro eb cI DI hDI
   refine gn ?_
   exact ⟨(1,_,DI,M),⟨by omega,(fun h=>by cases h),(fun _=>⟨m,eb,cI,rfl,hDI,hM⟩)⟩,sOZ,ar,_,aa⟩
 ·obtain rfl:j=1:=oZ
  obtain ⟨m,eb,cI,rfl,hDI,hM⟩:=h1 rfl
  refine gz ?_
  exact fin ⟨rfl,_,⟨m,M,_,cT,DT,eb,cI,DI,_,cL,DL,pO,cl,Dl,vD,DD,L,hT,hDI,ES,zt,hM,hL,rfl⟩,rfl⟩ aa
end Go.Proofs.YtpabnmeponmonaaGreatDoor
