/-
  4.
-/
import Derived.Test.YtpabnmeponmonaaGreatDoorZTopCrashes3
set_option maxRecDepth 10000
set_option maxHeartbeats 4000000
open List Go.Proofs.Tryz Go.Sl
namespace Go.Sl
def mkI (T:aW)(t:TypeId):Option (Value×TypeId×Nat):=match T.kW t with
 | some (.slice el)=>match T.ty el with
  | some i=>match i.zero,i.size with
   | some (.agg _),_=>none
   | some (.tuple _),_=>none
   | some z,1=>lit i.bytes fun b=>some (z,el,b)
   | _,_=>none
  | none=>none
 | _=>none
theorem Za {P:Program}{T:aW}(hT:T.Ok P){t el:TypeId}{z:Value}{ja:Nat}(h:mkI T t=some (z,el,ja)) :
  ∃i,P.underlying t=some (.slice el)/\P.info? el=some i/\i.zero=some z/\i.size=1/\z.cells=#[z]/\z.oneCell'=true/\i.bytes=ja:=by
 unfold mkI at h
 split at h
 ·rename_i el' he
  split at h
  ·rename_i i hi
   split at h
   ·cases h
   ·cases h
   ·rename_i z' h1 h2 hz hs
    rw [vx] at h
    cases h
    refine ⟨i,aW.aU hT he,hT.ty _ _ hi,hz,hs, ?_, ?_,rfl⟩
    ·cases z <;> first | rfl | exact absurd rfl (h1 _)
    ·cases z <;> first | rfl | exact absurd rfl (h1 _) | exact absurd rfl (h2 _)
   ·cases h
  ·cases h
 ·cases h
def I1 (T:aW)(t:TypeId):Option (TypeId×Nat×Nat×Value):=match T.kW t with
 | some (.slice el)=>match T.ty el with
  | some i=>match i.zero with
   | some z=>match Nat.beq z.cells.size i.size with
    | true=>lit i.size fun s=>lit i.bytes fun b=>some (el,s,b,z)
    | false=>none
   | none=>none
  | none=>none
 | _=>none
theorem jb {P:Program}{T:aW}(hT:T.Ok P){t el:TypeId}{s ja:Nat}{z:Value}(h:I1 T t=some (el,s,ja,z)) :
  ∃i,P.underlying t=some (.slice el)/\P.info? el=some i/\i.zero=some z/\i.size=s/\z.cells.size=s/\i.bytes=ja:=by
 unfold I1 at h
 split at h
 ·rename_i el' he
  split at h
  ·rename_i i hi
   split at h
   ·rename_i z' hz
    split at h
    ·rename_i hb;rw [vx,vx] at h;cases h;exact ⟨i,aW.aU hT he,hT.ty _ _ hi,hz,rfl,Nat.eq_of_beq_eq_true hb,rfl⟩
    ·cases h
   ·cases h
  ·cases h
 ·cases h
def GR (T:aW)(t:TypeId):Bool:=match T.kW t with
 | some (.slice _)=>true
 | _=>false
theorem An {P:Program}{T:aW}(hT:T.Ok P){t:TypeId}(h:GR T t=true):∃el,P.underlying t=some (.slice el):=by
 unfold GR at h
 split at h
 ·rename_i el he;exact ⟨el,aW.aU hT he⟩
 ·cases h
def GS (T:aW)(Ls:List Chunk)(s:Nat)(tx:TypeId)(u:Value)(m:Nat)(ys:List Value):Prop:=∀P w,T.Ok P->mH Ls w->Src P s tx u m ys w
theorem Zb {T:aW}{Ls:List Chunk}{C:Chunk}{s m:Nat}{tx:TypeId}{u:Value}{ys:List Value}(h:Rd C s u m ys)(hm:C∈Ls)(ht:GR T tx=true):GS T Ls s tx u m ys:=fun _ _ hT S=>(An hT ht).elim fun _ he=>h.src (S.at hm) he
theorem aev {T:aW}{Ls:List Chunk}{C:Chunk}{el:TypeId}{s m:Nat}{tx:TypeId}{u:Value}{ys:List Value}(h:aC C el s u m ys)(hm:C∈Ls)(ht:GR T tx=true):GS T Ls s tx u m ys:=Zb h.rd hm ht
theorem aew {T:aW}{Ls:List Chunk}{g:Nat}{el:TypeId}{s m c:Nat}{tx:TypeId}{ys:List Value}(hm:[(g,ax ys el)]∈Ls)(hx:ys.length=m*s)(h1:ys.all (·.oneCell')=true)(hc:m<=4611686018427387904)(ht:GR T tx=true):GS T Ls s tx (.slice (some ⟨g,0,none⟩) m c) m ys :=
 Zb (ay hx (fun u hu=>all_eq_true.1 h1 u hu) hc c) hm ht
section
variable {X:Cx}{f:Fx}{k:Kt}{e:Env}{Ls Rs:List Chunk}{ops:List Oper}{Ms:List Chunk}{r':aB}{κ d:Nat}{v:Value}{t tx el:TypeId}{x y z:Operand}
theorem WD.make {zv:Value}{ja m:Nat}{kl kc:IntKind}{q q':Int}(hκ:dR κ=true)(hx:ev e x=some (.int kl q))(hy:ev e y=some (.int kc q'))(hT:X.T.Ok X.P)(hi:mkI X.T t=some (zv,el,ja))(hq:q=(m:Int))(nW:q'=(m:Int))(hb:ja*m<=281474976710656/\m<=maxLen)
  (hM:cZ κ Ms Ls) (g:∀b,WO X f ops k Ms r' ((d,.slice (some ⟨b,0,none⟩) m m) :: e) ([(b,ax (replicate m zv) el)] :: Ls)):WD X f ops k Ms κ (some d) (.makeSlice t x y) r' e Ls:=by
 obtain ⟨i,h1,h2,h3,h4,h5,h6,h7⟩:=Za hT hi
 exact .ac hκ fun _ _ _ ho hd hn E S=>N2 E S ho hd (hn d rfl) hx hy hq nW h1 h2 h3 h4 h5 h6 h7 hb.1 hb.2 fun _ _ b E' S'=>KO.mk rfl (fun h C hC=>mem_cons_of_mem _ (hM h C hC)) (g b) E' S'
theorem WD.abI {zv:Value}{ja m s:Nat}{kl kc:IntKind}{q q':Int}(hκ:dR κ=true)(hx:ev e x=some (.int kl q))(hy:ev e y=some (.int kc q'))(hT:X.T.Ok X.P)(hi:I1 X.T t=some (el,s,ja,zv))(hq:q=(m:Int))(nW:q'=(m:Int))(h1:zv.cells.toList.all (·.oneCell')=true)(hb:ja*m<=281474976710656/\m<=maxLen)
  (hM:cZ κ Ms Ls) (g:∀b C,aC C el s (.slice (some ⟨b,0,none⟩) m m) m (replicate m zv.cells.toList).flatten->WO X f ops k Ms r' ((d,.slice (some ⟨b,0,none⟩) m m) :: e) (C :: Ls)):WD X f ops k Ms κ (some d) (.makeSlice t x y) r' e Ls:=by
 obtain ⟨i,g1,g2,g3,g4,g5,g6⟩:=jb hT hi
 subst g4 g6
 have hz:kU zv.cells (m*i.size)=(replicate m zv.cells.toList).flatten:=by
  have h:=yU zv m
  rw [g5] at h
  unfold kU madeCells
  rw [g5,h]
 refine .ac hκ fun _ _ _ ho hd hn E S=>qm E S ho hd (hn d rfl) hx hy hq nW g1 g2 g3 (fun u hu => ?_) hb.1 hb.2 fun _ _ v' C E' S' hB hv => ?_
 ·rw [hz] at hu
  obtain ⟨l,hl,Ao⟩:=mem_flatten.1 hu
  rw [(mem_replicate.1 hl).2] at Ao
  exact all_eq_true.1 h1 u Ao
 ·obtain ⟨b,rfl⟩:=hv
  rw [hz] at hB
  exact KO.mk rfl (fun h C hC=>mem_cons_of_mem _ (hM h C hC)) (g b C hB) E' S'
theorem WD.app {C:Chunk}{ja m s q:Nat}{u zv:Value}{xs ys:List Value}(hκ:dR κ=true)(hx:ev e x=some v)(hy:ev e y=some u)(hT:X.T.Ok X.P)(hi:I1 X.T t=some (el,s,ja,zv))(hB:aC C el s v q xs)(hp:Ls.Perm (C :: Rs))(hs:GS X.T Ls s tx u m ys)(hb:q+m<=maxLen/\(q+m)*ja<=140737488355328)
  (hM:cZ κ Ms Rs) (g:∀ad c C',aC C' el s (.slice ad (q+m) c) (q+m) (xs++ys)->WO X f ops k Ms r' ((d,.slice ad (q+m) c) :: e) (C' :: Rs)):WD X f ops k Ms κ (some d) (.call ⟨.builtin .append,⟨[x,y]⟩,⟨[t,tx]⟩⟩) r' e Ls:=by
 obtain ⟨i,g1,g2,g3,g4,g5,g6⟩:=jb hT hi
 exact .ac hκ fun _ _ w ho hd hn E S=>yT E S ho hd (hn d rfl) hx hy hB hp (hs X.P w hT S.kE) g1 g2 g3 g4 g5 g6 hb.1 hb.2 fun _ _ v' C' E' S' Ci=>by obtain ⟨ad,c,rfl⟩:=Ci.slice;exact KO.mk rfl (fun h C hC=>mem_cons_of_mem _ (hM h C hC)) (g ad c C' Ci) E' S'
theorem WD.abJ {C:Chunk}{b j dl dc m:Nat}{T:TypeId}{u:Value}{l l' ys:List Value}(hκ:dR κ=true)(hx:ev e x=some (.slice (some ⟨b,j,none⟩) dl dc))(hy:ev e y=some u)(hT:X.T.Ok X.P)(he:Xj X.T t=some 1)(hR:Rd C 1 u m ys)(hm:C∈Ls)(ht:GR X.T tx=true)(hp:Ls.Perm ([(b,ax l T)] :: Rs))(bJ:j+min m dl<=l.length)(hl:l.take j++ys.take (min m dl)++l.drop (j+min m dl)=l')
  (hM:cZ κ Ms ([(b,ax l' T)] :: Rs)) (g:WO X f ops k Ms r' ((d,.int .i64 (min m dl:Nat)) :: e) ([(b,ax l' T)] :: Rs)):WD X f ops k Ms κ (some d) (.call ⟨.builtin .copy,⟨[x,y]⟩,⟨[t,tx]⟩⟩) r' e Ls:=by
 obtain ⟨el,g1,g2⟩:=sr hT he
 obtain ⟨_,g3⟩:=An hT ht
 exact .ac hκ fun _ _ w ho hd hn E S=>TC E S ho hd (hn d rfl) hx hy hp (hR.TE (S.kE.at hm) g3) g1 g2 bJ fun _ _ E' S'=>by rw [hl] at S';exact KO.mk rfl hM g E' S'
theorem WD.bsl {len ja s:Nat}{zv:Value}{ps:List (Nat×Operand)}{qs:List (Nat×Value)}{cs:List Value}(hκ:dR κ=true)(hq:qp e ps=some qs)(hT:X.T.Ok X.P)(hi:I1 X.T t=some (el,s,ja,zv))(IU:(Nat.ble (len*s) 16777216&&Nat.blt 0 (len*s))=true)
  (hf:(match kq (fun j=>some (j*s,s)) (replicate len zv.cells.toList).flatten qs with | some cs=>force cs some | none=>none)=some cs)
  (hM:cZ κ Ms Ls) (g:∀b,WO X f ops k Ms r' ((d,.slice (some ⟨b,0,none⟩) len len) :: e) ([(b,ax cs el)] :: Ls)):WD X f ops k Ms κ (some d) (.buildSlice t len ⟨ps⟩) r' e Ls:=by
 obtain ⟨i,g1,g2,g3,g4,g5,g6⟩:=jb hT hi
 subst g4
 rw [Bool.and_eq_true] at IU
 split at hf
 ·rename_i Xm hc
  rw [force_eq] at hf
  cases hf
  exact .ac hκ fun _ _ w ho hd hn E S=>yV E S ho hd (hn d rfl) hq g1 g2 g3 g5 ⟨Nat.le_of_ble_eq_true IU.1,Nat.le_of_ble_eq_true IU.2⟩ hc fun _ _ b E' S'=>KO.mk rfl (fun h C hC=>mem_cons_of_mem _ (hM h C hC)) (g b) E' S'
 ·cases hf
inductive Bd (e:Env):Option Operand->Nat->Nat->Prop
 | none {d:Nat}:Bd e .none d d
 | some {o:Operand} {d n:Nat} {kl:IntKind} {q:Int} (h:ev e o = .some (.int kl q)) (hq:q=(n:Int)):Bd e (.some o) d n
def okB:Option Operand->Option Operand->Option Operand->Bool
 | .none,.none,_=>false
 | _,.none,.some _=>false
 | _,_,_=>true
theorem Aq {a:Act}{w:World}{o:Oper}{ad:Option Addr}{m c lo hi mx s n:Nat}{ol oh om:Option Operand}{P:Program}{el:TypeId}{ds:List Deferred}(E:Fr a n e ds)(ho:o.op = .slice t x ol oh om)(hx:ev e x=some (.slice ad m c))(g1:P.underlying t=some (.slice el))(g2:(P.info? el).map (·.size)=some s)
  (hl:Bd e ol 0 lo) (hh:Bd e oh m hi) (hm:Bd e om c mx) (aO:okB ol oh om=true) (h1:lo<=hi) (h3:hi<=mx) (h4:mx<=c):ab P o a w (sliced ad lo hi mx s) w:=by
 cases hl <;> cases hh <;> cases hm <;> first | cases aO | skip
 ·rename_i b1 b2;exact Gy E ho hx b1 g1 g2 b2 h3
 ·rename_i b1 b2 _ _ _ c1 c2;exact CR E ho hx b1 c1 g1 g2 b2 c2 h3 h4
 ·rename_i b1 b2;exact Gz E ho hx b1 g1 g2 b2 h1
 ·rename_i b1 b2 _ _ _ c1 c2;exact CO E ho hx b1 c1 g1 g2 b2 c2 h1 h3
 ·rename_i b1 b2 _ _ _ c1 c2 _ _ _ d1 d2;exact zV E ho hx b1 c1 d1 g1 g2 b2 c2 d2 h1 h3 h4
theorem WD.sl {C:Chunk}{ad:Option Addr}{m c lo hi mx s:Nat}{xs:List Value}{ol oh om:Option Operand}(hκ:calm κ=true)(hx:ev e x=some (.slice ad m c))(hT:X.T.Ok X.P)(hs:Xj X.T t=some s)(hl:Bd e ol 0 lo)(hh:Bd e oh m hi)(hm:Bd e om c mx)(aO:okB ol oh om=true)(h:lo<=hi/\hi<=m/\hi<=mx/\mx<=c)(hR:Rd C s (.slice ad m c) m xs){n':Nat}{ys:List Value}(hn:hi - lo=n')(qc:(xs.drop (lo*s)).take ((hi - lo)*s)=ys)
  (g:∀ad2,Rd C s (.slice ad2 n' (mx - lo)) n' ys->WO X f ops k Ms r' ((d,.slice ad2 n' (mx - lo)) :: e) Ls):WD X f ops k Ms κ (some d) (.slice t x ol oh om) r' e Ls:=by
 obtain ⟨el,g1,g2⟩:=sr hT hs
 obtain ⟨h1,h2,h3,h4⟩:=h
 obtain ⟨ad2,hv⟩:∃ad2,sliced ad lo hi mx s = .slice ad2 (hi - lo) (mx - lo):=⟨_,rfl⟩
 have kY:=hR.piece rfl h1 h2 h3
 rw [hv,qc,hn] at kY
 rw [hn] at hv
 exact .rd hκ (fun o a w ho E _=>hv ▸ Aq E ho hx g1 g2 hl hh hm aO h1 h3 h4) (g ad2 kY)
theorem WD.slA {b off:Nat}{m c lo hi mx s j:Nat}{ol oh om:Option Operand}(hκ:calm κ=true)(hx:ev e x=some (.slice (some ⟨b,off,none⟩) m c))(hT:X.T.Ok X.P)(hs:Xj X.T t=some s)(hl:Bd e ol 0 lo)(hh:Bd e oh m hi)(hm:Bd e om c mx)(aO:okB ol oh om=true)(h:lo<=hi/\hi<=m/\hi<=mx/\mx<=c/\(lo<mx\/lo=0))(hj:off+lo*s=j){n':Nat}(hn:hi - lo=n')
  (g:WO X f ops k Ms r' ((d,.slice (some ⟨b,j,none⟩) n' (mx - lo)) :: e) Ls):WD X f ops k Ms κ (some d) (.slice t x ol oh om) r' e Ls:=by
 obtain ⟨el,g1,g2⟩:=sr hT hs
 obtain ⟨h1,h2,h3,h4,h5⟩:=h
 have hv:sliced (some ⟨b,off,none⟩) lo hi mx s = .slice (some ⟨b,j,none⟩) (hi - lo) (mx - lo):=by
  subst hj
  rcases h5 with h5 | rfl
  ·simp [sliced,show ¬mx=lo by omega,Addr.add_lit]
  ·by_cases h0:mx=0
   ·simp [sliced,h0]
   ·simp [sliced,h0,Addr.add_lit]
 rw [hn] at hv
 exact .rd hκ (fun o a w ho E _=>hv ▸ Aq E ho hx g1 g2 hl hh hm aO h1 h3 h4) g
theorem WD.aex {ja m s:Nat}{u zv:Value}{ys:List Value}(hκ:dR κ=true)(hx:ev e x=some (.slice none 0 0))(hy:ev e y=some u)(hT:X.T.Ok X.P)(hi:I1 X.T t=some (el,s,ja,zv))(hs:GS X.T Ls s tx u m ys)(hb:m<=maxLen/\m*ja<=140737488355328)
  (hM:cZ κ Ms Ls) (g:∀ad c C',aC C' el s (.slice ad m c) m ys->WO X f ops k Ms r' ((d,.slice ad m c) :: e) (C' :: Ls)):WD X f ops k Ms κ (some d) (.call ⟨.builtin .append,⟨[x,y]⟩,⟨[t,tx]⟩⟩) r' e Ls:=by
 obtain ⟨i,g1,g2,g3,g4,g5,g6⟩:=jb hT hi
 exact .ac hκ fun _ _ w ho hd hn E S=>yT E S.Ys ho hd (hn d rfl) hx hy (aC.nil el s) (kR _ _) (hs X.P w hT S.kE) g1 g2 g3 g4 g5 g6 oZ (by rw [Nat.zero_add];exact hb.2) fun _ _ v' C' E' S' Ci=>by rw [Nat.zero_add,nil_append] at Ci;obtain ⟨ad,c,rfl⟩:=Ci.slice;exact KO.mk rfl (fun h C hC=>mem_cons_of_mem _ (hM h C hC)) (g ad c C' Ci) E' S'
theorem Rd.Zc {C:Chunk}{v:Value}{m:Nat}{bs:List UInt8}(h:Rd C 1 v m (au bs)):bs.length=m:=by have:=h.1;rw [aq,Nat.mul_one] at this;exact this
theorem WD.str {C:Chunk}{t':TypeId}{u:Value}{bs:List UInt8}{m:Nat}(hκ:calm κ=true)(hx:ev e x=some u)(hT:X.T.Ok X.P)(ht:X.T.kW t=some (.slice el))(Kw:X.T.kW el=some (.int .u8))(hd:X.T.kW t'=some .string)(hR:Rd C 1 u m (au bs))(hm:C∈Ag κ Ms Ls)
  (g:WO X f ops k Ms r' ((d,str bs) :: e) Ls):WD X f ops k Ms κ (some d) (.convert t t' x) r' e Ls:=.rd hκ (fun _ _ _ ho E S=>Kv E ho hx (aW.aU hT ht) (aW.aU hT Kw) (aW.aU hT hd) (by rw [hR.Zc];exact hR) (S.at hm)) g
theorem WD.mark {b m c:Nat}{T:TypeId}{l:List Value}(hκ:dR κ=true)(hx:ev e x=some (.slice (some ⟨b,0,none⟩) m c))(hT:X.T.Ok X.P)(ht:X.T.kW t=some (.slice el))(Kw:X.T.kW el=some (.int .u8))(hp:Ls.Perm ([(b,ax l T)] :: Rs))
  (hM:cZ κ Ms ([(b,TG l T)] :: Rs)) (g:WO X f ops k Ms r' ((d,.slice (some ⟨b,0,none⟩) m c) :: e) ([(b,TG l T)] :: Rs)):WD X f ops k Ms κ (some d) (.convert t t x) r' e Ls :=
 .ac hκ fun _ _ _ ho hd hn E S=>TH E S ho rfl hd (hn d rfl) hx (aW.aU hT ht) (aW.aU hT Kw) hp fun _ _ E' S'=>KO.mk rfl hM g E' S'
end
def kv (m:Me):Int×Value:=(m.key,m.val)
def Mp (r:Nat)(k:IntKind)(L:List (Int×Value))(C:Chunk):Prop:=∃Ms clock,Ms.map kv=L/\vv Ms clock/\C=[(r,.map (jG k Ms) clock)]
def y8 (r it:Nat)(k:IntKind)(L rest:List (Int×Value))(C D:Chunk):Prop:=∃Ms clock since seen last,Ms.map kv=L/\vv Ms clock/\C=[(r,.map (jG k Ms) clock)]/\D=[(it,.mapIter (some r) since seen last)]/\(∀m∈Ms,m.born<since)/\since<=last/\since<=clock/\rest=(Ms.filter fun m => !seen.contains m.born).map kv
def kx (L:List (Int×Value))(q:Int):Option Value:=(L.find? fun e=>e.1==q).map (·.2)
def iw:List (Int×Value)->Int->Value->List (Int×Value)
 | [],q,v=>[(q,v)]
 | (p,u) :: L,q,v=>if p=q then (p,v) :: L else (p,u) :: iw L q v
def iN (L:List (Int×Value))(q:Int):List (Int×Value):=L.filter fun e=>e.1 != q
theorem y8.mp {r it:Nat}{k:IntKind}{L rest:List (Int×Value)}{C D:Chunk}(h:y8 r it k L rest C D):Mp r k L C:=by
 obtain ⟨Ms,clock,since,seen,last,h1,h2,h3, -⟩:=h;exact ⟨Ms,clock,h1,h2,h3⟩
theorem Mp.nodup {r:Nat}{k:IntKind}{L:List (Int×Value)}{C:Chunk}(h:Mp r k L C):(L.map (·.1)).Nodup:=by
 obtain ⟨Ms,clock,rfl,h2, -⟩:=h
 rw [map_map];exact h2.nk
theorem vR {Ms:List Me}{q:Int}{v:Value}(h:kx (Ms.map kv) q=some v):∃A m B,Ms=A++m :: B/\m.key=q/\m.val=v/\∀z∈A,z.key≠q:=by
 induction Ms with
 | nil=>simp [kx] at h
 | cons x l ih =>
  by_cases c:x.key=q
  ·refine ⟨[],x,l,rfl,c, ?_,by simp⟩
   simpa [kx,kv,c] using h
  ·have:kx (l.map kv) q=some v:=by simpa [kx,kv,c] using h
   obtain ⟨A,m,B,rfl,h2,h3,h4⟩:=ih this
   exact ⟨x :: A,m,B,rfl,h2,h3,fun z hz=>by
    rcases List.mem_cons.1 hz with rfl | hz
    ·exact c
    ·exact h4 z hz⟩
theorem vU {Ms:List Me}{q:Int}(h:kx (Ms.map kv) q=none):∀m∈Ms,m.key≠q:=by
 intro m hm e
 simp only [kx,Option.map_eq_none_iff,find?_eq_none] at h
 exact h (kv m) (mem_map_of_mem hm) (by simp [kv,e])
theorem TR {A B:List Me}{m:Me}{v:Value}(hA:∀z∈A,z.key≠m.key):iw ((A++m :: B).map kv) m.key v=(A++{ m with val:=v } :: B).map kv:=by
 induction A with
 | nil=>simp [iw,kv]
 | cons x l ih =>
  have h1:=hA x (mem_cons_self ..)
  have h2:=ih fun z hz=>hA z (mem_cons_of_mem _ hz)
  simp only [cons_append,map_cons,kv,iw] at h2 ⊢
  rw [if_neg h1,h2]
theorem OD {Ms:List Me}{q:Int}{v:Value}(h:∀m∈Ms,m.key≠q):iw (Ms.map kv) q v=Ms.map kv++[(q,v)]:=by
 induction Ms with
 | nil=>rfl
 | cons x l ih =>
  have h1:=h x (mem_cons_self ..)
  simp only [map_cons,kv,iw,if_neg h1,cons_append]
  rw [ih fun z hz=>h z (mem_cons_of_mem _ hz)]
def S7 (T:aW)(t:TypeId):Option (TypeId×IntKind):=match T.kW t with
 | some (.map kt et)=>match T.kW kt with
  | some (.int k)=>some (et,k)
  | _=>none
 | _=>none
theorem pD {P:Program}{T:aW}(hT:T.Ok P){t et:TypeId}{k:IntKind}(h:S7 T t=some (et,k)):∃kt,P.underlying t=some (.map kt et)/\P.underlying kt=some (.int k):=by
 unfold S7 at h
 split at h
 ·rename_i kt et' h1
  split at h
  ·rename_i k' h2;cases h;exact ⟨kt,aW.aU hT h1,aW.aU hT h2⟩
  ·cases h
 ·cases h
def lkR (b:Bool)(v:Value)(is:Bool):Value:=match b with
 | true=>.tuple #[v,.bool is]
 | false=>v
def zv (T:aW)(t:TypeId):Option Value:=match T.ty t with
 | some i=>i.zero
 | none=>none
section
variable {X:Cx}{f:Fx}{k:Kt}{e:Env}{Ls Rs:List Chunk}{ops:List Oper}{Ms:List Chunk}{r':aB}{κ d:Nat}{v:Value}{t et:TypeId}{x y z:Operand}{r:Nat}{kk:IntKind}{L:List (Int×Value)}{q:Int}{C D:Chunk}
theorem WD.mkMap (hκ:dR κ=true)(kk:IntKind)(hM:cZ κ Ms Ls)(g:∀r C,Mp r kk [] C->WO X f ops k Ms r' ((d,.map (some r)) :: e) (C :: Ls)):WD X f ops k Ms κ (some d) (.makeMap t none) r' e Ls :=
 .ac hκ fun _ _ _ ho hd hn E S=>GG E S ho hd (hn d rfl) fun _ _ b E' S'=>KO.mk rfl (fun h C hC=>mem_cons_of_mem _ (hM h C hC)) (g b _ ⟨[],0,rfl,Of 0,rfl⟩) E' S'
theorem WD.lkY {b:Bool}(hκ:calm κ=true)(hx:ev e x=some (.map (some r)))(hy:ev e y=some (.int kk q))(hT:X.T.Ok X.P)(ht:S7 X.T t=some (et,kk))(hC:Mp r kk L C)(hm:C∈Ag κ Ms Ls)(hv:kx L q=some v)
  (g:WO X f ops k Ms r' ((d,lkR b v true) :: e) Ls):WD X f ops k Ms κ (some d) (.lookup t x y b) r' e Ls:=by
 obtain ⟨kt,h1,h2⟩:=pD hT ht
 obtain ⟨es,clock,rfl, -,rfl⟩:=hC
 obtain ⟨A,m,B,rfl,rfl,rfl,hA⟩:=vR hv
 have hf:=uo (k:=kk) (m:=m) (A:=A) (B:=B) 0 hA
 rw [Nat.zero_add] at hf
 refine .rd hκ (fun _ _ _ ho E S => ?_) g
 cases b
 ·exact GF E ho hx hy h1 h2 (S.one hm) hf
 ·exact z7 E ho hx hy h1 h2 (S.one hm) hf
theorem WD.lkN {b:Bool}(hκ:calm κ=true)(hx:ev e x=some (.map (some r)))(hy:ev e y=some (.int kk q))(hT:X.T.Ok X.P)(ht:S7 X.T t=some (et,kk))(hz:zv X.T et=some v)(hC:Mp r kk L C)(hm:C∈Ag κ Ms Ls)(hv:kx L q=none)
  (g:WO X f ops k Ms r' ((d,lkR b v false) :: e) Ls):WD X f ops k Ms κ (some d) (.lookup t x y b) r' e Ls:=by
 obtain ⟨kt,h1,h2⟩:=pD hT ht
 obtain ⟨es,clock,rfl, -,rfl⟩:=hC
 have hf:=qx (k:=kk) 0 (vU hv)
 unfold zv at hz
 split at hz
 ·rename_i i hi
  have hi:=hT.ty _ _ hi
  refine .rd hκ (fun _ _ _ ho E S => ?_) g
  cases b
  ·exact vu E ho hx hy h1 h2 hi hz (S.one hm) hf
  ·exact yk E ho hx hy h1 h2 hi hz (S.one hm) hf
 ·cases hz
theorem WD.aey (hκ:dR κ=true)(hx:ev e x=some (.map (some r)))(hy:ev e y=some (.int kk q))(hz:ev e z=some v)(hT:X.T.Ok X.P)(ht:S7 X.T t=some (et,kk))(hC:Mp r kk L C)(hp:Ls.Perm (C :: Rs))
  (hM:cZ κ Ms Rs) (g:∀C',Mp r kk (iw L q v) C'->WO X f ops k Ms r' e (C' :: Rs)):WD X f ops k Ms κ none (.mapUpdate t x y z) r' e Ls:=by
 obtain ⟨kt,h1,h2⟩:=pD hT ht
 obtain ⟨es,clock,rfl,oG,rfl⟩:=hC
 refine .ac hκ fun _ _ _ ho hd _ E S => ?_
 cases hl:kx (es.map kv) q with
 | some u =>
  obtain ⟨A,m,B,rfl,rfl,rfl,hA⟩:=vR hl
  refine KB E S ho hd hx hy hz h1 h2 hp hA fun _ _ E' S' => ?_
  exact KO.mk rfl (fun h C hC=>mem_cons_of_mem _ (hM h C hC)) (g _ ⟨_,_,(TR hA).symm,Oh oG,rfl⟩) E' S'
 | none =>
  have hn:=vU hl
  refine Kz E S (.inl ho) hd hx hy hz h1 h2 hp (qx (k:=kk) 0 hn) fun _ _ E' S' => ?_
  have hp':(jG kk es).push { key:=.int kk q,val:=v,born:=clock }=jG kk (es++[⟨q,v,clock⟩]):=CY kk es ⟨q,v,clock⟩
  rw [hp'] at S'
  exact KO.mk rfl (fun h C hC=>mem_cons_of_mem _ (hM h C hC)) (g _ ⟨_,_,by rw [OD hn];simp [kv],yW oG rfl hn,rfl⟩) E' S'
theorem OE {A B:List Me}{m:Me}(hn:((A++m :: B).map (·.key)).Nodup):iN ((A++m :: B).map kv) m.key=(A++B).map kv:=by
 have h:∀l:List Me,(∀z∈l,z.key≠m.key)->(l.map kv).filter (fun e=>e.1 != m.key)=l.map kv:=fun l hl=>by
  rw [filter_eq_self]
  intro a ha
  obtain ⟨z,hz,rfl⟩:=mem_map.1 ha
  simpa [kv] using hl z hz
 rw [map_append,map_cons,nodup_append] at hn
 obtain ⟨h1,h2,h3⟩:=hn
 rw [nodup_cons] at h2
 simp only [iN,map_append,map_cons,filter_append]
 rw [filter_cons_of_neg (by simp [kv]),h A (fun z hz e=>h3 _ (mem_map_of_mem hz) _ (mem_cons_self ..) e),h B (fun z hz e=>h2.1 (by rw [<-e];exact mem_map_of_mem hz))]
theorem OF {A B:List Me}{m:Me}{seen:Array Nat}(hn:((A++m :: B).map (·.key)).Nodup):iN (((A++m :: B).filter fun z => !seen.contains z.born).map kv) m.key=(((A++B).filter fun z => !seen.contains z.born)).map kv:=by
 have h1:iN (((A++m :: B).filter fun z => !seen.contains z.born).map kv) m.key=(((A++m :: B).filter fun z=>z.key != m.key).filter fun z => !seen.contains z.born).map kv:=by
  rw [iN,filter_map,filter_filter,filter_filter]
  congr 1
  apply filter_congr
  intro z _;simp [Function.comp,kv,Bool.and_comm]
 have h2:(A++m :: B).filter (fun z=>z.key != m.key)=A++B:=by
  have:=OE hn
  have h3:∀l:List Me,(∀z∈l,z.key≠m.key)->l.filter (fun z=>z.key != m.key)=l:=fun l hl=>by
   rw [filter_eq_self];intro z hz;simpa using hl z hz
  rw [map_append,map_cons,nodup_append] at hn
  obtain ⟨n1,n2,n3⟩:=hn
  rw [nodup_cons] at n2
  rw [filter_append,filter_cons_of_neg (by simp),h3 A (fun z hz e=>n3 _ (mem_map_of_mem hz) _ (mem_cons_self ..) e),h3 B (fun z hz e=>n2.1 (by rw [<-e];exact mem_map_of_mem hz))]
 rw [h1,h2]
theorem WD.Xn {it:Nat}{rest:List (Int×Value)}{tk:TypeId}(hκ:dR κ=true)(hx:ev e x=some (.map (some r)))(hy:ev e y=some (.int kk q))(hT:X.T.Ok X.P)(ht:S7 X.T t=some (et,kk))(hC:y8 r it kk L rest C D)(hq:(kx L q).isSome=true)(hp:Ls.Perm (C :: Rs))
  (hM:cZ κ Ms Rs) (g:∀C',y8 r it kk (iN L q) (iN rest q) C' D->WO X f ops k Ms r' e (C' :: Rs)):WD X f ops k Ms κ none (.call ⟨.builtin .delete,⟨[x,y]⟩,⟨[t,tk]⟩⟩) r' e Ls:=by
 obtain ⟨kt,h1,h2⟩:=pD hT ht
 obtain ⟨es,clock,since,seen,last,rfl,oG,rfl,rfl,hb,hs,I2,rfl⟩:=hC
 obtain ⟨u,hu⟩:=Option.isSome_iff_exists.1 hq
 obtain ⟨A,m,B,rfl,rfl,rfl,hA⟩:=vR hu
 refine .ac hκ fun _ _ _ ho hd _ E S => ?_
 refine KC E S ho hd hx hy h1 h2 hp hA fun _ _ E' S' => ?_
 refine KO.mk rfl (fun h C hC=>mem_cons_of_mem _ (hM h C hC)) (g _ ⟨A++B,clock,since,seen,last,(OE oG.nk).symm,Og oG (by simp),rfl,rfl,fun z hz=>hb z ?_,hs,I2, ?_⟩) E' S'
 ·rcases List.mem_append.1 hz with hz | hz
  ·exact mem_append_left _ hz
  ·exact mem_append_right _ (mem_cons_of_mem _ hz)
 ·exact OF oG.nk
theorem WD.aez {tk:TypeId}(hκ:dR κ=true)(hx:ev e x=some (.map (some r)))(hy:ev e y=some (.int kk q))(hT:X.T.Ok X.P)(ht:S7 X.T t=some (et,kk))(hC:Mp r kk L C)(hq:(kx L q).isSome=true)(hp:Ls.Perm (C :: Rs))
  (hM:cZ κ Ms Rs) (g:∀C',Mp r kk (iN L q) C'->WO X f ops k Ms r' e (C' :: Rs)):WD X f ops k Ms κ none (.call ⟨.builtin .delete,⟨[x,y]⟩,⟨[t,tk]⟩⟩) r' e Ls:=by
 obtain ⟨es,clock,rfl,oG,rfl⟩:=hC
 exact .Xn (it:=0) (D:=[(0,.mapIter (some r) clock #[] clock)]) hκ hx hy hT ht ⟨es,clock,clock,#[],clock,rfl,oG,rfl,rfl,oG.born,Nat.le_refl _,Nat.le_refl _,rfl⟩ hq hp hM fun C' h=>g C' h.mp
theorem WD.Zd (hκ:dR κ=true)(hx:ev e x=some (.map (some r)))(hT:X.T.Ok X.P)(ht:S7 X.T t=some (et,kk))(hC:Mp r kk L C)(hp:Ls.Perm (C :: Rs))
  (hM:cZ κ Ms Ls) (g:∀it D,y8 r it kk L L C D->WO X f ops k Ms r' ((d,ptr it) :: e) (D :: Ls)):WD X f ops k Ms κ (some d) (.range t x) r' e Ls:=by
 obtain ⟨kt,h1,h2⟩:=pD hT ht
 obtain ⟨es,clock,rfl,oG,rfl⟩:=hC
 refine .ac hκ fun _ _ _ ho hd hn E S=>CZ E S ho hd (hn d rfl) hx h1 hp fun _ _ b E' S' => ?_
 exact KO.mk rfl (fun h C hC=>mem_cons_of_mem _ (hM h C hC)) (g b _ ⟨es,clock,clock,#[],clock,rfl,oG,rfl,rfl,oG.born,Nat.le_refl _,Nat.le_refl _,by rw [filter_eq_self.2 (fun _ _=>by simp)]⟩) E' S'
end
def RM (P:Program)(w:World)(As:List Chunk)(cB:Value->List Chunk->Prop):Ending->World->Prop:=fun en w'=>∃v,en = .returned v/\∃Bs,cB v Bs/\mR w w' As Bs
abbrev TS (P:Program)(w:World)(As:List Chunk)(fn:Func)(cB:Value->List Chunk->Prop):Kt:=.raw (bodyPostM Fence.wide 0 P fn (RM P w As cB))
theorem Np.mkM {P:Program}{T:aW}{g:FuncId}{args:List Value}{As:List Chunk}{cB:Value->List Chunk->Prop}{fn:Func}{c:Code}{n:Nat}{e:Env}(hf:P.funcs[g]? = some fn)(hb:fn.body=some c)(hn:fn.ntmps=n)(hs:Nat.ble args.length n=true)(he:num 0 args=e)
  (h:∀w0,WS ⟨P,T,w0,As,none,[]⟩ ⟨fn,n,sw cB⟩ c (TS P w0 As fn cB) e As):Np P g args As cB:=fun w H=>by
 refine GL n _ e hf hb hn (by simpa using Nat.le_of_ble_eq_true hs) (fun k v hk => ?_) fun a E => ?_
 ·rw [<-he] at hk
  have:=ur args 0 k v hk
  simpa using this.2
 ·exact (wpIn_wide (n:=0)).1 ((h w).ap a w E (.begin H))
section
variable {P:Program}{T:aW}{w0:World}{As:List Chunk}{ro:Option Nat}{f:Fx}{k:Kt}{e:Env}{Ls Bs Rs:List Chunk}{cB:Value->List Chunk->Prop}{vs:List Value}{v:Value}{r l:Nat}
theorem WE.abK {X:Cx}{fn:Func}(hX:X.ds=[⟨.collected r,#[]⟩])(xV:f.fn=fn)(h:GN e f.fn.results.toList=some vs)(hv:one vs=v)(hp:Ls.Perm ([(r,.deferred (some []))] :: Rs))(g:sw cB v Rs):WE X f .ret (TS X.P X.w0 X.As fn cB) e Ls:=⟨fun a w E S=>by
 subst xV
 obtain ⟨Bs,Rs',hs,hP⟩:=g.out
 have E':=E
 rw [hX] at E'
 exact Df E' S hp (fun w' S'=>⟨v,hv ▸ lU (Ae E h),v,rfl,Bs,hP,(S'.y7 hs).tr⟩) _ (.inl rfl)⟩
theorem WE.Ze {X:Cx}{fn:Func}(hX:X.ds=[⟨.collected r,#[]⟩])(hT:X.T.Ok X.P)(xV:f.fn=fn)(hp:Ls.Perm ([(r,.deferred (some []))] :: Rs))(h:RR X.T e Rs f.fn.results.toList vs)(hv:one vs=v)(g:sw cB v Rs):WE X f .ret (TS X.P X.w0 X.As fn cB) e Ls:=⟨fun a w E S=>by
 subst xV
 obtain ⟨Bs,Rs',hs,hP⟩:=g.out
 have E':=E
 rw [hX] at E'
 exact Df E' S hp (fun w' S'=>⟨v,hv ▸ lU (h.ok hT E S'.kE),v,rfl,Bs,hP,(S'.y7 hs).tr⟩) _ (.inl rfl)⟩
def Kt.plain:Kt->Bool
 | .top=>false
 | .raw _=>true
 | .seq _ k=>k.plain
 | .gB _ k=>k.plain
 | .Ov _ _=>false
theorem Kt.OG {P:Program}{T:aW}{w0:World}{As:List Chunk}{ro:Option Nat}{d1 d2:List Deferred}{f:Fx}:∀ {k:Kt},k.plain=true->k.Q ⟨P,T,w0,As,ro,d1⟩ f=k.Q ⟨P,T,w0,As,ro,d2⟩ f
 | .raw _,_=>rfl
 | .seq c k,h=>by simp only [Kt.Q];rw [Kt.OG (k:=k) h]
 | .gB i k,h=>by simp only [Kt.Q];rw [Kt.OG (k:=k) h]
def RE (P:Program)(w0:World)(As Cs:List Chunk)(l r:Nat)(rc:Loop)(J:List Chunk->Prop)(pE:List Chunk->Prop):Ending->World->Prop:=fun en w' =>
 (en = .returned (.bool true)/\∃bm,St w0 As w' ([(l,.loop rc)] :: (Cs++([(r,.deferred (some []))] :: bm)))/\J bm)\/(en = .returned (.bool false)/\∃bm,St w0 As w' ([(l,.loop (y4 rc))] :: (Cs++([(r,.deferred (some []))] :: bm)))/\pE bm)
def Kr (P:Program)(w0:World)(As Cs:List Chunk)(l r:Nat)(rc:Loop)(J pE:List Chunk->Prop):Kt:=.raw (GK l w0 As rc (RE P w0 As Cs l r rc J pE))
theorem WE.next {X:Cx}{Cs:List Chunk}{rc:Loop}{J pE:List Chunk->Prop}{L':List Chunk}(hs:iv Ls ([(l,.loop (vC rc))] :: (Cs++([(r,.deferred (some []))] :: L'))) Rs)(hJ:J L'):WE X f .normal (Kr P X.w0 X.As Cs l r rc J pE) e Ls :=
 ⟨fun _ _ _ S=>⟨_,S.y7 hs,fun _ S'=>.inl ⟨rfl,L',S',hJ⟩⟩⟩
theorem WE.stop {X:Cx}{Cs:List Chunk}{rc:Loop}{J pE:List Chunk->Prop}{L':List Chunk}(hs:iv Ls ([(l,.loop (vC rc))] :: (Cs++([(r,.deferred (some []))] :: L'))) Rs)(hJ:pE L'):WE X f .ret (Kr P X.w0 X.As Cs l r rc J pE) e Ls :=
 ⟨fun _ _ _ S=>⟨_,S.y7 hs,fun _ S'=>.inr ⟨rfl,L',S',hJ⟩⟩⟩
theorem KN {a:Act}{n:Nat}{ds:List Deferred}(E:Fr a n e ds){p0:Nat}(h0:p0<n)(v0:Value) :
  Fr ⟨((#[p0]:Array Tmp).zip #[v0]).foldl (fun tmps x=>tmps.setIfInBounds x.1 x.2) a.tmps,[]⟩ n ((p0,v0) :: e):=by
 have h:=E.put h0 v0
 exact ⟨by simpa [Act.put] using h.size,rfl,fun k v hk=>by simpa [Act.put] using h.get k v hk⟩
inductive S9 (n:Nat):List Nat->List Value->Env->Prop
 | one {p0:Nat} {v0:Value} (h0:p0<n):S9 n [p0] [v0] [(p0,v0)]
 | two {p0 p1:Nat} {v0 v1:Value} (h0:p0<n) (h1:p1<n):S9 n [p0,p1] [v0,v1] [(p1,v1),(p0,v0)]
theorem S9.fr {ps:List Nat}{V:Env}{n:Nat}(h:S9 n ps vs V){a:Act}{ds:List Deferred}(E:Fr a n e ds):Fr ⟨((ps.toArray:Array Tmp).zip vs.toArray).foldl (fun tmps x=>tmps.setIfInBounds x.1 x.2) a.tmps,[]⟩ n (V++e):=by
 cases h with
 | one h0=>exact KN E h0 _
 | two h0 h1=>exact KF E h0 h1 _ _
theorem S9.len {ps:List Nat}{V:Env}{n:Nat}(h:S9 n ps vs V):ps.length=vs.length:=by cases h <;> rfl
theorem OH {a:Act}{n:Nat}{w:World}{ds:List Deferred}{ps:List Nat}{V:Env}{assign body:Code}{rc:Loop}{R:Ending->World->Prop}(hL:Ou rc a ps.toArray assign body)(S:St w0 As w ([(l,.loop rc)] :: Ls))(E:Fr a n e ds)(hp:S9 n ps vs V)
  (h:∀a,Fr a n (V++e)->assign.wpIn (RF (some l)) 0 P (Exit.then (fun a1 w1=>∃Oq,St w0 As w1 ([(l,.loop rc)] :: Oq)/\∀w2,St w0 As w2 ([(l,.loop (vC rc))] :: Oq) ->
   body.wpIn (RF (some l)) 0 P (GK l w0 As rc R) a1 w2) (fun _ _ _=>False)) a w):RoundIn Fence.wide 0 P l rc.fn ((rc.params.zip vs.toArray).foldl (fun tmps x=>tmps.setIfInBounds x.1 x.2) rc.tmps) rc.assign rc.body w R:=by
 have abL:({ rc with state:=.ready,pending:=none }:Loop)=rc:=by
  have h1:=hL.st
  have h2:=hL.pn
  cases rc
  simp only at h1 h2
  subst h1 h2
  rfl
 rw [hL.tm,hL.pr,hL.as_,hL.bd]
 refine Oo S hL.st (hp.fr E) fun a2 E2=>wpIn_mono (h a2 E2) ?_
 intro x a1 w1 hx
 cases x with
 | normal =>
  obtain ⟨Oq,S1,k⟩:=hx
  refine ⟨Oq,S1,fun w2 S2=>wpIn_mono (k w2 S2) ?_⟩
  intro y a3 w3 hy
  cases y with
  | normal =>
   obtain ⟨bm,S3,k3⟩:=hy
   exact ⟨bm,S3,fun w' S4=>k3 w' (by rw [abL] at S4;exact S4)⟩
  | ret=>exact hy
  | exit i=>exact hy.elim
  | goto l=>exact hy.elim
  | panic c=>exact hy.elim
  | outgrown=>exact hy.elim
 | exit i=>exact hx.elim
 | goto l=>exact hx.elim
 | ret=>exact hx.elim
 | panic c=>exact hx.elim
 | outgrown=>exact hx.elim
def Ka (P:Program)(w0:World)(As Cs:List Chunk)(l r:Nat)(rc:Loop)(J pE:List Chunk->Prop)(body:Code):Kt :=
 .raw (Exit.then (fun a1 w1=>∃Oq,St w0 As w1 ([(l,.loop rc)] :: Oq)/\∀w2,St w0 As w2 ([(l,.loop (vC rc))] :: Oq)->body.wpIn (RF (some l)) 0 P (GK l w0 As rc (RE P w0 As Cs l r rc J pE)) a1 w2) (fun _ _ _=>False))
theorem WE.asg {Cs:List Chunk}{rc:Loop}{J pE:List Chunk->Prop}{body:Code}(h:WS ⟨P,T,w0,As,some l,[]⟩ f body (Kr P w0 As Cs l r rc J pE) e ([(l,.loop (vC rc))] :: Ls)):WE ⟨P,T,w0,As,some l,[]⟩ f .normal (Ka P w0 As Cs l r rc J pE body) e ([(l,.loop rc)] :: Ls) :=
 ⟨fun a _ E S=>⟨Ls,S,fun w2 S2=>h.ap a w2 E S2⟩⟩
end
def KP (D:Chunk)(i:Nat):Prop:=∃l T,(i,ax l T)∈D
def PB (D:Chunk)(i j:Nat):Prop:=i=j\/(KP D i/\KP D j)
theorem KP.bk {D:Chunk}{i:Nat}{w:World}(h:KP D i)(hw:∀x∈D,w.heap[x.1]? = some x.2):Bk w i:=by
 obtain ⟨l,T,hm⟩:=h;exact ⟨l,T,hw _ hm⟩
def ptS (T:aW)(t:TypeId):Bool:=match T.kW t with
 | some (.pointer te)=>match T.ty te with
  | some z => !Nat.beq z.size 0
  | none=>false
 | _=>false
theorem OI {P:Program}{T:aW}(hT:T.Ok P){t:TypeId}(h:ptS T t=true):∃te z,P.underlying t=some (.pointer te)/\P.info? te=some z/\z.size≠0:=by
 unfold ptS at h
 split at h
 ·rename_i te h1
  split at h
  ·rename_i z h2
   refine ⟨te,z,aW.aU hT h1,hT.ty _ _ h2,fun h0 => ?_⟩
   rw [h0] at h;cases h
  ·cases h
 ·cases h
def arZ (T:aW)(t:TypeId):Option Nat:=match T.kW t with
 | some (.array m el)=>match T.sz el with
  | some 1=>YW m some
  | _=>none
 | _=>none
theorem Zf {P:Program}{T:aW}(hT:T.Ok P){t:TypeId}{m:Nat}(h:arZ T t=some m):∃el,P.underlying t=some (.array m el)/\(P.info? el).map (·.size)=some 1:=by
 unfold arZ at h
 split at h
 ·rename_i m' el h1
  split at h
  ·rename_i h2;rw [IQ] at h;cases h;exact ⟨el,aW.aU hT h1,aW.tq hT h2⟩
  ·cases h
 ·cases h
section
variable {X:Cx}{f:Fx}{k:Kt}{e:Env}{Ls Rs:List Chunk}{ops:List Oper}{Ms:List Chunk}{r r':aB}{κ d:Nat}{v:Value}{t t' el:TypeId}{x y z:Operand}{D:Chunk}{i j:Nat}
theorem WD.eqP (hκ:calm κ=true)(hx:ev e x=some (ptr i))(hy:ev e y=some (ptr j))(hT:X.T.Ok X.P)(ht:ptS X.T t=true)(hD:PB D i j)(hm:D∈Ag κ Ms Ls)
  (g:WO X f ops k Ms r' ((d,.bool (decide (i=j))) :: e) Ls):WD X f ops k Ms κ (some d) (.binOp .eql t x y t') r' e Ls:=by
 obtain ⟨te,z,h1,h2,h3⟩:=OI hT ht
 exact .rd hκ (fun _ _ _ ho E S=>CV E ho hx hy h1 h2 h3 (hD.imp_right fun h=>⟨h.1.bk (S.at hm),h.2.bk (S.at hm)⟩)) g
theorem WD.neP (hκ:calm κ=true)(hx:ev e x=some (ptr i))(hy:ev e y=some (ptr j))(hT:X.T.Ok X.P)(ht:ptS X.T t=true)(hD:PB D i j)(hm:D∈Ag κ Ms Ls)
  (g:WO X f ops k Ms r' ((d,.bool !(decide (i=j))) :: e) Ls):WD X f ops k Ms κ (some d) (.binOp .neq t x y t') r' e Ls:=by
 obtain ⟨te,z,h1,h2,h3⟩:=OI hT ht
 exact .rd hκ (fun _ _ _ ho E S=>CX E ho hx hy h1 h2 h3 (hD.imp_right fun h=>⟨h.1.bk (S.at hm),h.2.bk (S.at hm)⟩)) g
theorem WD.slP {b j m:Nat}(hκ:calm κ=true)(hx:ev e x=some (.pointer (some ⟨b,j,none⟩)))(hT:X.T.Ok X.P)(ht:arZ X.T t=some m)(hm:Nat.blt 0 m=true)
  (g:WO X f ops k Ms r' ((d,.slice (some ⟨b,j,none⟩) m m) :: e) Ls):WD X f ops k Ms κ (some d) (.slice t x none none none) r' e Ls:=by
 obtain ⟨el,h1,h2⟩:=Zf hT ht
 exact .rd hκ (fun _ _ _ ho E _=>zZ E ho hx h1 h2 (Nat.le_of_ble_eq_true hm)) g
theorem Ar {P:Program}{a:Act}{w:World}{o:Oper}{n:Nat}{ds:List Deferred}{fn:Fn}{bs cs:List Operand}{us vs:List Value}(E:Fr a n e ds)(ho:o.op = .makeFunc fn bs.toArray cs.toArray)(hb:IL e bs=some us)(hc:IL e cs=some vs)(hf:∃k,fn = .func k):ab P o a w (.func fn us.toArray vs.toArray) w:=by
 obtain ⟨k,rfl⟩:=hf
 simp [ab,execOp,ho,E.td hb,E.td hc,Instr.makeFunc]
theorem WD.mkB {g0:FuncId}{bs cs:List Operand}{us vs:List Value}(hκ:calm κ=true)(hb:IL e bs=some us)(hc:IL e cs=some vs)
  (g:WO X f ops k Ms r' ((d,.func (.func g0) us.toArray vs.toArray) :: e) Ls):WD X f ops k Ms κ (some d) (.makeFunc (.func g0) ⟨bs⟩ ⟨cs⟩) r' e Ls :=
 .rd hκ (fun _ _ _ ho E _=>Ar E ho hb hc ⟨_,rfl⟩) g
theorem WD.abM {b q:Nat}{vs l:List Value}{T:TypeId}(hκ:calm κ=true)(hx:ev e x=some (.pointer (some ⟨b,j,none⟩)))(hT:X.T.Ok X.P)(ht:X.T.agg t=some q){fr:Nat×Nat}(hm:[(b,.cells l.toArray T fr)]∈Ag κ Ms Ls)(hv:Sub j vs l)(hl:vs.length=q)
  (g:WO X f ops k Ms r' ((d,.agg vs.toArray) :: e) Ls):WD X f ops k Ms κ (some d) (.load t x) r' e Ls:=.Xi hκ hx hT ht hm hl hv g
theorem WD.sl0 {s:Nat}{ol oh om:Option Operand}(hκ:calm κ=true)(hx:ev e x=some (.slice none 0 0))(hT:X.T.Ok X.P)(hs:Xj X.T t=some s)(hl:Bd e ol 0 0)(hh:Bd e oh 0 0)(hm:Bd e om 0 0)(aO:okB ol oh om=true)
  (g:WO X f ops k Ms r' ((d,.slice none 0 0) :: e) Ls):WD X f ops k Ms κ (some d) (.slice t x ol oh om) r' e Ls:=by
 obtain ⟨el,g1,g2⟩:=sr hT hs
 exact .rd hκ (fun o a w ho E _=>by have:=Aq (P:=X.P) (w:=w) E ho hx g1 g2 hl hh hm aO (Nat.le_refl _) (Nat.le_refl _) (Nat.le_refl _);simpa [sliced] using this) g
theorem WD.aeA {ja s:Nat}{zv:Value}{vs:List Value}(hκ:dR κ=true)(hx:ev e x=some (.agg vs.toArray))(hT:X.T.Ok X.P)(hi:I1 X.T t=some (el,s,ja,zv))(hs:(Nat.ble s 16777216&&Nat.blt 0 s)=true)(hv:vs.length=s)
  (hM:cZ κ Ms Ls) (g:∀b,WO X f ops k Ms r' ((d,.slice (some ⟨b,0,none⟩) 1 1) :: e) ([(b,ax vs el)] :: Ls)):WD X f ops k Ms κ (some d) (.buildSlice t 1 ⟨[(0,x)]⟩) r' e Ls:=by
 obtain ⟨i,g1,g2,g3,g4,g5,g6⟩:=jb hT hi
 subst g4
 rw [Bool.and_eq_true] at hs
 have hq:qp e [(0,x)]=some [(0,.agg vs.toArray)]:=by simp [qp,hx]
 have vV:=Nat.le_of_ble_eq_true hs.1
 have lV:=Nat.le_of_ble_eq_true hs.2
 exact .ac hκ fun _ _ w ho hd hn E S=>yV E S ho hd (hn d rfl) hq g1 g2 g3 g5 ⟨by omega,by omega⟩ (Od (by simpa using g5) hv) fun _ _ b E' S'=>KO.mk rfl (fun h C hC=>mem_cons_of_mem _ (hM h C hC)) (g b) E' S'
theorem WD.aeB {ja s:Nat}{zv:Value}(hκ:dR κ=true)(hT:X.T.Ok X.P)(hi:I1 X.T t=some (el,s,ja,zv))
  (hM:cZ κ Ms Ls) (g:∀b,WO X f ops k Ms r' ((d,.slice (some ⟨b,0,none⟩) 0 0) :: e) ([(b,ax [] el)] :: Ls)):WD X f ops k Ms κ (some d) (.buildSlice t 0 ⟨[]⟩) r' e Ls:=by
 obtain ⟨i,g1,g2,g3,g4,g5,g6⟩:=jb hT hi
 exact .ac hκ fun _ _ w ho hd hn E S=>GA E S ho hd (hn d rfl) g1 g2 fun _ _ b E' S'=>KO.mk rfl (fun h C hC=>mem_cons_of_mem _ (hM h C hC)) (g b) E' S'
theorem WD.aeC {ja m s q c g0:Nat}{u zv:Value}{l l' ys:List Value}{tx:TypeId}(hκ:dR κ=true)(hx:ev e x=some (.slice (some ⟨g0,0,none⟩) q c))(hy:ev e y=some u)(hT:X.T.Ok X.P)(hi:I1 X.T t=some (el,s,ja,zv))(hp:Ls.Perm ([(g0,ax l el)] :: Rs))(hs:GS X.T Ls s tx u m ys)(fe:q+m<=c)(hlen:(q+m)*s<=l.length)(hl:l.take (q*s)++ys++l.drop ((q+m)*s)=l')
  (hM:cZ κ Ms ([(g0,ax l' el)] :: Rs)) (g:WO X f ops k Ms r' ((d,.slice (some ⟨g0,0,none⟩) (q+m) c) :: e) ([(g0,ax l' el)] :: Rs)):WD X f ops k Ms κ (some d) (.call ⟨.builtin .append,⟨[x,y]⟩,⟨[t,tx]⟩⟩) r' e Ls:=by
 obtain ⟨i,g1,g2,g3,g4,g5,g6⟩:=jb hT hi
 exact .ac hκ fun _ _ w ho hd hn E S=>z6 E S ho hd (hn d rfl) hx hy hp fe hlen (hs X.P w hT S.kE) g1 g2 g4 fun _ _ E' S'=>by rw [hl] at S';exact KO.mk rfl hM g E' S'
theorem Di {P:Program}{a:Act}{w:World}{o:Oper}{n:Nat}{ds:List Deferred}{t kt et:TypeId}{r clock:Nat}{es:Array MapEntry}(E:Fr a n e ds)(ho:o.op = .call ⟨.builtin .len,⟨[x]⟩,⟨[t]⟩⟩)(hx:ev e x=some (.map (some r)))(ht:P.underlying t=some (.map kt et))(hb:w.heap[r]? = some (.map es clock)):ab P o a w (.int .i64 es.size) w:=by
 simp [ab,execOp,ho,resolve,invoke,builtin,E.eval hx,Builtin.len_,run_underlying ht,Go.MapKept.run_getObj_map hb,goInt]
theorem WD.aeD {r:Nat}{kk:IntKind}{L:List (Int×Value)}{C:Chunk}{et:TypeId}(hκ:calm κ=true)(hx:ev e x=some (.map (some r)))(hT:X.T.Ok X.P)(ht:S7 X.T t=some (et,kk))(hC:Mp r kk L C)(hm:C∈Ag κ Ms Ls)
  (g:WO X f ops k Ms r' ((d,.int .i64 L.length) :: e) Ls):WD X f ops k Ms κ (some d) (.call ⟨.builtin .len,⟨[x]⟩,⟨[t]⟩⟩) r' e Ls:=by
 obtain ⟨kt,h1,h2⟩:=pD hT ht
 obtain ⟨es,clock,rfl, -,rfl⟩:=hC
 have hl:(jG kk es).size=(es.map kv).length:=by simp
 exact .rd hκ (fun _ _ _ ho E S=>by have:=Di (P:=X.P) E ho hx h1 (S.one hm);rw [hl] at this;exact this) g
theorem WO.fork {q:aB}(h1:WO X f ops k Ms (.cons (i,1) r) e Ls)(h2:WO X f ops k Ms (.cons (j,1) q) e Ls):WO X f ops k Ms (.fork i r j q) e Ls:=⟨fun a w E S=>⟨h1.ap a w E S,h2.ap a w E S⟩⟩
theorem St.Kn {w0 w:World}{As Ls:List Chunk}(S:St w0 As w Ls):(Ls.flatten.map (·.1)).Nodup:=S.hp.1
theorem KQ {A B:Chunk}(h:(Ls.flatten.map (·.1)).Nodup)(hp:Ls.Perm (A :: B :: Rs)):∀x∈A.map (·.1),x∉B.map (·.1):=fun x hx hb=>by
 have h1:=((hp.flatten.map (·.1)).nodup_iff).1 h
 simp only [flatten_cons,map_append,nodup_append,List.mem_append] at h1
 exact h1.2.2 x hx x (.inl hb) rfl
theorem WO.nodup (g:(Ls.flatten.map (·.1)).Nodup->WO X f ops k Ms r e Ls):WO X f ops k Ms r e Ls:=⟨fun a w E S=>(g S.Kn).ap a w E S⟩
end
end Go.Sl
namespace Go.Proofs.YtpabnmeponmonaaGreatDoor
abbrev lfZ {α:Type}(i:Nat)(x:α):Bt α:=.nd .lf i x .lf
open Go.Proofs.Tryz in
noncomputable def tys:Bt TypeInfo:=(.nd (.nd (.nd (.nd (.nd (.nd (.nd (.nd (lfZ 0 t0) 1 t1 (lfZ 2 t2)) 3 t3 (.nd (lfZ 4 t4) 5 t5 .lf)) 6 t6 (.nd (.nd (lfZ 7 t7) 8 t8 (lfZ 9 t9)) 10 t10 (.nd (lfZ 11 t11) 12 t12 .lf))) 13 t13 (.nd (.nd (.nd (lfZ 14 t14) 15 t15 (lfZ 16 t16)) 17 t17 (.nd (lfZ 18 t18) 19 t19 .lf)) 20 t20 (.nd (.nd (lfZ 21 t21) 22 t22 (lfZ 23 t23)) 24 t24 (.nd (lfZ 25 t25) 26 t26 .lf)))) 27 t27 (.nd (.nd (.nd (.nd (lfZ 28 t28) 29 t29 (lfZ 30 t30)) 31 t31 (.nd (lfZ 32 t32) 33 t33 .lf)) 34 t34 (.nd (.nd (lfZ 35 t35) 36 t36 (lfZ 37 t37)) 38 t38 (.nd (lfZ 39 t39) 40 t40 .lf))) 41 t41 (.nd (.nd (.nd (lfZ 42 t42) 43 t43 (lfZ 44 t44)) 45 t45 (.nd (lfZ 46 t46) 47 t47 .lf)) 48 t48 (.nd (.nd (lfZ 49 t49) 50 t50 .lf) 51 t51 (.nd (lfZ 52 t52) 53 t53 .lf))))) 54 t54 (.nd (.nd (.nd (.nd (.nd (lfZ 55 t55) 56 t56 (lfZ 57 t57)) 58 t58 (.nd (lfZ 59 t59) 60 t60 .lf)) 61 t61 (.nd (.nd (lfZ 62 t62) 63 t63 (lfZ 64 t64)) 65 t65 (.nd (lfZ 66 t66) 67 t67 .lf))) 68 t68 (.nd (.nd (.nd (lfZ 69 t69) 70 t70 (lfZ 71 t71)) 72 t72 (.nd (lfZ 73 t73) 74 t74 .lf)) 75 t75 (.nd (.nd (lfZ 76 t76) 77 t77 .lf) 78 t78 (.nd (lfZ 79 t79) 80 t80 .lf)))) 81 t81 (.nd (.nd (.nd (.nd (lfZ 82 t82) 83 t83 (lfZ 84 t84)) 85 t85 (.nd (lfZ 86 t86) 87 t87 .lf)) 88 t88 (.nd (.nd (lfZ 89 t89) 90 t90 (lfZ 91 t91)) 92 t92 (.nd (lfZ 93 t93) 94 t94 .lf))) 95 t95 (.nd (.nd (.nd (lfZ 96 t96) 97 t97 (lfZ 98 t98)) 99 t99 (.nd (lfZ 100 t100) 101 t101 .lf)) 102 t102 (.nd (.nd (lfZ 103 t103) 104 t104 .lf) 105 t105 (.nd (lfZ 106 t106) 107 t107 .lf)))))) 108 t108 (.nd (.nd (.nd (.nd (.nd (.nd (lfZ 109 t109) 110 t110 (lfZ 111 t111)) 112 t112 (.nd (lfZ 113 t113) 114 t114 .lf)) 115 t115 (.nd (.nd (lfZ 116 t116) 117 t117 (lfZ 118 t118)) 119 t119 (.nd (lfZ 120 t120) 121 t121 .lf))) 122 t122 (.nd (.nd (.nd (lfZ 123 t123) 124 t124 (lfZ 125 t125)) 126 t126 (.nd (lfZ 127 t127) 128 t128 .lf)) 129 t129 (.nd (.nd (lfZ 130 t130) 131 t131 (lfZ 132 t132)) 133 t133 (.nd (lfZ 134 t134) 135 t135 .lf)))) 136 t136 (.nd (.nd (.nd (.nd (lfZ 137 t137) 138 t138 (lfZ 139 t139)) 140 t140 (.nd (lfZ 141 t141) 142 t142 .lf)) 143 t143 (.nd (.nd (lfZ 144 t144) 145 t145 (lfZ 146 t146)) 147 t147 (.nd (lfZ 148 t148) 149 t149 .lf))) 150 t150 (.nd (.nd (.nd (lfZ 151 t151) 152 t152 (lfZ 153 t153)) 154 t154 (.nd (lfZ 155 t155) 156 t156 .lf)) 157 t157 (.nd (.nd (lfZ 158 t158) 159 t159 .lf) 160 t160 (.nd (lfZ 161 t161) 162 t162 .lf))))) 163 t163 (.nd (.nd (.nd (.nd (.nd (lfZ 164 t164) 165 t165 (lfZ 166 t166)) 167 t167 (.nd (lfZ 168 t168) 169 t169 .lf)) 170 t170 (.nd (.nd (lfZ 171 t171) 172 t172 (lfZ 173 t173)) 174 t174 (.nd (lfZ 175 t175) 176 t176 .lf))) 177 t177 (.nd (.nd (.nd (lfZ 178 t178) 179 t179 (lfZ 180 t180)) 181 t181 (.nd (lfZ 182 t182) 183 t183 .lf)) 184 t184 (.nd (.nd (lfZ 185 t185) 186 t186 .lf) 187 t187 (.nd (lfZ 188 t188) 189 t189 .lf)))) 190 t190 (.nd (.nd (.nd (.nd (lfZ 191 t191) 192 t192 (lfZ 193 t193)) 194 t194 (.nd (lfZ 195 t195) 196 t196 .lf)) 197 t197 (.nd (.nd (lfZ 198 t198) 199 t199 (lfZ 200 t200)) 201 t201 (.nd (lfZ 202 t202) 203 t203 .lf))) 204 t204 (.nd (.nd (.nd (lfZ 205 t205) 206 t206 (lfZ 207 t207)) 208 t208 (.nd (lfZ 209 t209) 210 t210 .lf)) 211 t211 (.nd (.nd (lfZ 212 t212) 213 t213 .lf) 214 t214 (.nd (lfZ 215 t215) 216 t216 .lf))))))) 217 t217 (.nd (.nd (.nd (.nd (.nd (.nd (.nd (lfZ 218 t218) 219 t219 (lfZ 220 t220)) 221 t221 (.nd (lfZ 222 t222) 223 t223 .lf)) 224 t224 (.nd (.nd (lfZ 225 t225) 226 t226 (lfZ 227 t227)) 228 t228 (.nd (lfZ 229 t229) 230 t230 .lf))) 231 t231 (.nd (.nd (.nd (lfZ 232 t232) 233 t233 (lfZ 234 t234)) 235 t235 (.nd (lfZ 236 t236) 237 t237 .lf)) 238 t238 (.nd (.nd (lfZ 239 t239) 240 t240 (lfZ 241 t241)) 242 t242 (.nd (lfZ 243 t243) 244 t244 .lf)))) 245 t245 (.nd (.nd (.nd (.nd (lfZ 246 t246) 247 t247 (lfZ 248 t248)) 249 t249 (.nd (lfZ 250 t250) 251 t251 .lf)) 252 t252 (.nd (.nd (lfZ 253 t253) 254 t254 (lfZ 255 t255)) 256 t256 (.nd (lfZ 257 t257) 258 t258 .lf))) 259 t259 (.nd (.nd (.nd (lfZ 260 t260) 261 t261 (lfZ 262 t262)) 263 t263 (.nd (lfZ 264 t264) 265 t265 .lf)) 266 t266 (.nd (.nd (lfZ 267 t267) 268 t268 .lf) 269 t269 (.nd (lfZ 270 t270) 271 t271 .lf))))) 272 t272 (.nd (.nd (.nd (.nd (.nd (lfZ 273 t273) 274 t274 (lfZ 275 t275)) 276 t276 (.nd (lfZ 277 t277) 278 t278 .lf)) 279 t279 (.nd (.nd (lfZ 280 t280) 281 t281 (lfZ 282 t282)) 283 t283 (.nd (lfZ 284 t284) 285 t285 .lf))) 286 t286 (.nd (.nd (.nd (lfZ 287 t287) 288 t288 (lfZ 289 t289)) 290 t290 (.nd (lfZ 291 t291) 292 t292 .lf)) 293 t293 (.nd (.nd (lfZ 294 t294) 295 t295 .lf) 296 t296 (.nd (lfZ 297 t297) 298 t298 .lf)))) 299 t299 (.nd (.nd (.nd (.nd (lfZ 300 t300) 301 t301 (lfZ 302 t302)) 303 t303 (.nd (lfZ 304 t304) 305 t305 .lf)) 306 t306 (.nd (.nd (lfZ 307 t307) 308 t308 (lfZ 309 t309)) 310 t310 (.nd (lfZ 311 t311) 312 t312 .lf))) 313 t313 (.nd (.nd (.nd (lfZ 314 t314) 315 t315 (lfZ 316 t316)) 317 t317 (.nd (lfZ 318 t318) 319 t319 .lf)) 320 t320 (.nd (.nd (lfZ 321 t321) 322 t322 .lf) 323 t323 (.nd (lfZ 324 t324) 325 t325 .lf)))))) 326 t326 (.nd (.nd (.nd (.nd (.nd (.nd (lfZ 327 t327) 328 t328 (lfZ 329 t329)) 330 t330 (.nd (lfZ 331 t331) 332 t332 .lf)) 333 t333 (.nd (.nd (lfZ 334 t334) 335 t335 (lfZ 336 t336)) 337 t337 (.nd (lfZ 338 t338) 339 t339 .lf))) 340 t340 (.nd (.nd (.nd (lfZ 341 t341) 342 t342 (lfZ 343 t343)) 344 t344 (.nd (lfZ 345 t345) 346 t346 .lf)) 347 t347 (.nd (.nd (lfZ 348 t348) 349 t349 .lf) 350 t350 (.nd (lfZ 351 t351) 352 t352 .lf)))) 353 t353 (.nd (.nd (.nd (.nd (lfZ 354 t354) 355 t355 (lfZ 356 t356)) 357 t357 (.nd (lfZ 358 t358) 359 t359 .lf)) 360 t360 (.nd (.nd (lfZ 361 t361) 362 t362 (lfZ 363 t363)) 364 t364 (.nd (lfZ 365 t365) 366 t366 .lf))) 367 t367 (.nd (.nd (.nd (lfZ 368 t368) 369 t369 (lfZ 370 t370)) 371 t371 (.nd (lfZ 372 t372) 373 t373 .lf)) 374 t374 (.nd (.nd (lfZ 375 t375) 376 t376 .lf) 377 t377 (.nd (lfZ 378 t378) 379 t379 .lf))))) 380 t380 (.nd (.nd (.nd (.nd (.nd (lfZ 381 t381) 382 t382 (lfZ 383 t383)) 384 t384 (.nd (lfZ 385 t385) 386 t386 .lf)) 387 t387 (.nd (.nd (lfZ 388 t388) 389 t389 (lfZ 390 t390)) 391 t391 (.nd (lfZ 392 t392) 393 t393 .lf))) 394 t394 (.nd (.nd (.nd (lfZ 395 t395) 396 t396 (lfZ 397 t397)) 398 t398 (.nd (lfZ 399 t399) 400 t400 .lf)) 401 t401 (.nd (.nd (lfZ 402 t402) 403 t403 .lf) 404 t404 (.nd (lfZ 405 t405) 406 t406 .lf)))) 407 t407 (.nd (.nd (.nd (.nd (lfZ 408 t408) 409 t409 (lfZ 410 t410)) 411 t411 (.nd (lfZ 412 t412) 413 t413 .lf)) 414 t414 (.nd (.nd (lfZ 415 t415) 416 t416 (lfZ 417 t417)) 418 t418 (.nd (lfZ 419 t419) 420 t420 .lf))) 421 t421 (.nd (.nd (.nd (lfZ 422 t422) 423 t423 (lfZ 424 t424)) 425 t425 (.nd (lfZ 426 t426) 427 t427 .lf)) 428 t428 (.nd (.nd (lfZ 429 t429) 430 t430 .lf) 431 t431 (.nd (lfZ 432 t432) 433 t433 .lf))))))))
open Go.Proofs.Tryz in
noncomputable def fns:Bt Func:=(.nd (.nd (.nd (.nd (.nd (.nd (.nd (.nd (lfZ 0 f0) 1 f1 .lf) 2 f2 (.nd (lfZ 3 f3) 4 f4 .lf)) 5 f5 (.nd (.nd (lfZ 6 f6) 7 f7 .lf) 8 f8 (.nd (lfZ 9 f9) 10 f10 .lf))) 11 f11 (.nd (.nd (.nd (lfZ 12 f12) 13 f13 .lf) 14 f14 (.nd (lfZ 15 f15) 16 f16 .lf)) 17 f17 (.nd (.nd (lfZ 18 f18) 19 f19 .lf) 20 f20 (.nd (lfZ 21 f21) 22 f22 .lf)))) 23 f23 (.nd (.nd (.nd (.nd (lfZ 24 f24) 25 f25 .lf) 26 f26 (.nd (lfZ 27 f27) 28 f28 .lf)) 29 f29 (.nd (.nd (lfZ 30 f30) 31 f31 .lf) 32 f32 (.nd (lfZ 33 f33) 34 f34 .lf))) 35 f35 (.nd (.nd (.nd (lfZ 36 f36) 37 f37 .lf) 38 f38 (.nd (lfZ 39 f39) 40 f40 .lf)) 41 f41 (.nd (.nd (lfZ 42 f42) 43 f43 .lf) 44 f44 (lfZ 45 f45))))) 46 f46 (.nd (.nd (.nd (.nd (.nd (lfZ 47 f47) 48 f48 .lf) 49 f49 (.nd (lfZ 50 f50) 51 f51 .lf)) 52 f52 (.nd (.nd (lfZ 53 f53) 54 f54 .lf) 55 f55 (.nd (lfZ 56 f56) 57 f57 .lf))) 58 f58 (.nd (.nd (.nd (lfZ 59 f59) 60 f60 .lf) 61 f61 (.nd (lfZ 62 f62) 63 f63 .lf)) 64 f64 (.nd (.nd (lfZ 65 f65) 66 f66 .lf) 67 f67 (lfZ 68 f68)))) 69 f69 (.nd (.nd (.nd (.nd (lfZ 70 f70) 71 f71 .lf) 72 f72 (.nd (lfZ 73 f73) 74 f74 .lf)) 75 f75 (.nd (.nd (lfZ 76 f76) 77 f77 .lf) 78 f78 (.nd (lfZ 79 f79) 80 f80 .lf))) 81 f81 (.nd (.nd (.nd (lfZ 82 f82) 83 f83 .lf) 84 f84 (.nd (lfZ 85 f85) 86 f86 .lf)) 87 f87 (.nd (.nd (lfZ 88 f88) 89 f89 .lf) 90 f90 (lfZ 91 f91)))))) 92 f92 (.nd (.nd (.nd (.nd (.nd (.nd (lfZ 93 f93) 94 f94 .lf) 95 f95 (.nd (lfZ 96 f96) 97 f97 .lf)) 98 f98 (.nd (.nd (lfZ 99 f99) 100 f100 .lf) 101 f101 (.nd (lfZ 102 f102) 103 f103 .lf))) 104 f104 (.nd (.nd (.nd (lfZ 105 f105) 106 f106 .lf) 107 f107 (.nd (lfZ 108 f108) 109 f109 .lf)) 110 f110 (.nd (.nd (lfZ 111 f111) 112 f112 .lf) 113 f113 (.nd (lfZ 114 f114) 115 f115 .lf)))) 116 f116 (.nd (.nd (.nd (.nd (lfZ 117 f117) 118 f118 .lf) 119 f119 (.nd (lfZ 120 f120) 121 f121 .lf)) 122 f122 (.nd (.nd (lfZ 123 f123) 124 f124 .lf) 125 f125 (.nd (lfZ 126 f126) 127 f127 .lf))) 128 f128 (.nd (.nd (.nd (lfZ 129 f129) 130 f130 .lf) 131 f131 (.nd (lfZ 132 f132) 133 f133 .lf)) 134 f134 (.nd (.nd (lfZ 135 f135) 136 f136 .lf) 137 f137 (lfZ 138 f138))))) 139 f139 (.nd (.nd (.nd (.nd (.nd (lfZ 140 f140) 141 f141 .lf) 142 f142 (.nd (lfZ 143 f143) 144 f144 .lf)) 145 f145 (.nd (.nd (lfZ 146 f146) 147 f147 .lf) 148 f148 (.nd (lfZ 149 f149) 150 f150 .lf))) 151 f151 (.nd (.nd (.nd (lfZ 152 f152) 153 f153 .lf) 154 f154 (.nd (lfZ 155 f155) 156 f156 .lf)) 157 f157 (.nd (.nd (lfZ 158 f158) 159 f159 .lf) 160 f160 (lfZ 161 f161)))) 162 f162 (.nd (.nd (.nd (.nd (lfZ 163 f163) 164 f164 .lf) 165 f165 (.nd (lfZ 166 f166) 167 f167 .lf)) 168 f168 (.nd (.nd (lfZ 169 f169) 170 f170 .lf) 171 f171 (.nd (lfZ 172 f172) 173 f173 .lf))) 174 f174 (.nd (.nd (.nd (lfZ 175 f175) 176 f176 .lf) 177 f177 (.nd (lfZ 178 f178) 179 f179 .lf)) 180 f180 (.nd (.nd (lfZ 181 f181) 182 f182 .lf) 183 f183 (lfZ 184 f184))))))) 185 f185 (.nd (.nd (.nd (.nd (.nd (.nd (.nd (lfZ 186 f186) 187 f187 .lf) 188 f188 (.nd (lfZ 189 f189) 190 f190 .lf)) 191 f191 (.nd (.nd (lfZ 192 f192) 193 f193 .lf) 194 f194 (.nd (lfZ 195 f195) 196 f196 .lf))) 197 f197 (.nd (.nd (.nd (lfZ 198 f198) 199 f199 .lf) 200 f200 (.nd (lfZ 201 f201) 202 f202 .lf)) 203 f203 (.nd (.nd (lfZ 204 f204) 205 f205 .lf) 206 f206 (.nd (lfZ 207 f207) 208 f208 .lf)))) 209 f209 (.nd (.nd (.nd (.nd (lfZ 210 f210) 211 f211 .lf) 212 f212 (.nd (lfZ 213 f213) 214 f214 .lf)) 215 f215 (.nd (.nd (lfZ 216 f216) 217 f217 .lf) 218 f218 (.nd (lfZ 219 f219) 220 f220 .lf))) 221 f221 (.nd (.nd (.nd (lfZ 222 f222) 223 f223 .lf) 224 f224 (.nd (lfZ 225 f225) 226 f226 .lf)) 227 f227 (.nd (.nd (lfZ 228 f228) 229 f229 .lf) 230 f230 (lfZ 231 f231))))) 232 f232 (.nd (.nd (.nd (.nd (.nd (lfZ 233 f233) 234 f234 .lf) 235 f235 (.nd (lfZ 236 f236) 237 f237 .lf)) 238 f238 (.nd (.nd (lfZ 239 f239) 240 f240 .lf) 241 f241 (.nd (lfZ 242 f242) 243 f243 .lf))) 244 f244 (.nd (.nd (.nd (lfZ 245 f245) 246 f246 .lf) 247 f247 (.nd (lfZ 248 f248) 249 f249 .lf)) 250 f250 (.nd (.nd (lfZ 251 f251) 252 f252 .lf) 253 f253 (lfZ 254 f254)))) 255 f255 (.nd (.nd (.nd (.nd (lfZ 256 f256) 257 f257 .lf) 258 f258 (.nd (lfZ 259 f259) 260 f260 .lf)) 261 f261 (.nd (.nd (lfZ 262 f262) 263 f263 .lf) 264 f264 (.nd (lfZ 265 f265) 266 f266 .lf))) 267 f267 (.nd (.nd (.nd (lfZ 268 f268) 269 f269 .lf) 270 f270 (.nd (lfZ 271 f271) 272 f272 .lf)) 273 f273 (.nd (.nd (lfZ 274 f274) 275 f275 .lf) 276 f276 (lfZ 277 f277)))))) 278 f278 (.nd (.nd (.nd (.nd (.nd (.nd (lfZ 279 f279) 280 f280 .lf) 281 f281 (.nd (lfZ 282 f282) 283 f283 .lf)) 284 f284 (.nd (.nd (lfZ 285 f285) 286 f286 .lf) 287 f287 (.nd (lfZ 288 f288) 289 f289 .lf))) 290 f290 (.nd (.nd (.nd (lfZ 291 f291) 292 f292 .lf) 293 f293 (.nd (lfZ 294 f294) 295 f295 .lf)) 296 f296 (.nd (.nd (lfZ 297 f297) 298 f298 .lf) 299 f299 (.nd (lfZ 300 f300) 301 f301 .lf)))) 302 f302 (.nd (.nd (.nd (.nd (lfZ 303 f303) 304 f304 .lf) 305 f305 (.nd (lfZ 306 f306) 307 f307 .lf)) 308 f308 (.nd (.nd (lfZ 309 f309) 310 f310 .lf) 311 f311 (.nd (lfZ 312 f312) 313 f313 .lf))) 314 f314 (.nd (.nd (.nd (lfZ 315 f315) 316 f316 .lf) 317 f317 (.nd (lfZ 318 f318) 319 f319 .lf)) 320 f320 (.nd (.nd (lfZ 321 f321) 322 f322 .lf) 323 f323 (lfZ 324 f324))))) 325 f325 (.nd (.nd (.nd (.nd (.nd (lfZ 326 f326) 327 f327 .lf) 328 f328 (.nd (lfZ 329 f329) 330 f330 .lf)) 331 f331 (.nd (.nd (lfZ 332 f332) 333 f333 .lf) 334 f334 (.nd (lfZ 335 f335) 336 f336 .lf))) 337 f337 (.nd (.nd (.nd (lfZ 338 f338) 339 f339 .lf) 340 f340 (.nd (lfZ 341 f341) 342 f342 .lf)) 343 f343 (.nd (.nd (lfZ 344 f344) 345 f345 .lf) 346 f346 (lfZ 347 f347)))) 348 f348 (.nd (.nd (.nd (.nd (lfZ 349 f349) 350 f350 .lf) 351 f351 (.nd (lfZ 352 f352) 353 f353 .lf)) 354 f354 (.nd (.nd (lfZ 355 f355) 356 f356 .lf) 357 f357 (.nd (lfZ 358 f358) 359 f359 .lf))) 360 f360 (.nd (.nd (.nd (lfZ 361 f361) 362 f362 .lf) 363 f363 (.nd (lfZ 364 f364) 365 f365 .lf)) 366 f366 (.nd (.nd (lfZ 367 f367) 368 f368 .lf) 369 f369 (lfZ 370 f370))))))))
noncomputable def KR:aW:=⟨fun i=>match Nat.blt i 434 with | true=>tys.get i | false=>none,fun i=>match Nat.blt i 371 with | true=>fns.get i | false=>none⟩
set_option maxRecDepth 100000 in
theorem Zg:(List.range 434).map tys.get=Tryz.types.toList.map some:=by kernel_rfl
theorem Zh:(List.range 371).map fns.get=Tryz.funcs.toList.map some:=by kernel_rfl
theorem aD:KR.Ok prog:=aW.abv (ts:=Tryz.types) (fs:=Tryz.funcs) rfl rfl (fun _ _ h=>Oi Zg h) (fun _ _ h=>Oi Zh h)
end Go.Proofs.YtpabnmeponmonaaGreatDoor
namespace Go.Sl
theorem mem {p:Prop}(h:p:=by repeat (first | exact List.Mem.head _ | apply List.Mem.tail)):p:=h
theorem pick {p:Prop}(h:p:=by repeat (first | exact kR _ _ | apply kS)):p:=h
theorem abN {α:Type}{a b:α}{l m n:List α}(h:l.Perm (a :: m))(g:m.Perm (b :: n)):l.Perm (a :: b :: n):=h.trans (g.cons a)
theorem I3 {p:Prop}(h:p:=by apply abN;exact pick;exact pick):p:=h
theorem TT {Ls As l Rs:List Chunk}{A:Chunk}(h:iv Ls (A :: (l++As)) Rs):iv Ls ((A :: l)++As) Rs:=h
theorem TU {Ls As Rs:List Chunk}(h:iv Ls As Rs):iv Ls ([]++As) Rs:=h
theorem aa {p:Prop}(h:p:=by repeat (first | exact OB _ | (with_reducible apply TT) | (with_reducible apply TU) | (with_reducible apply KL) | (with_reducible apply OC) | (apply KK;exact pick))):p:=h
theorem Zi {p:Prop}(h:p:=by repeat (first | exact IZ.nil | (with_reducible apply IZ.app) | apply IZ.cons)):p:=h
theorem abO {Ms Ls:List Chunk}:cZ 3 Ms Ls:=fun h=>by cases h
theorem abP {κ:Nat}{Ls:List Chunk}:cZ κ [] Ls:=fun _ _ h=>by cases h
theorem abQ {κ:Nat}{Ms Ls:List Chunk}(h:∀C∈Ms,C∈Ls):cZ κ Ms Ls:=fun _=>h
theorem OJ {Ls:List Chunk}:∀C∈([]:List Chunk),C∈Ls:=fun _ h=>by cases h
theorem OK {A:Chunk}{Ms Ls:List Chunk}(h:A∈Ls)(g:∀C∈Ms,C∈Ls):∀C∈A :: Ms,C∈Ls:=forall_mem_cons.2 ⟨h,g⟩
theorem keeps {p:Prop}(h:p:=by first | exact abO | exact abP | (apply abQ;repeat (first | exact OJ | (apply OK;exact mem)))):p:=h
section
variable {x y:Nat}{z:Int}
theorem aeE (h:x+@OfNat.ofNat Nat y (instOfNatNat y)<9223372036854775808):IntKind.i64.wrap ((x:Int)+@OfNat.ofNat Int y instOfNat)=((x+@OfNat.ofNat Nat y (instOfNatNat y):Nat):Int):=wa1 h
theorem abR (h:x<9223372036854775808):IntKind.i64.wrap ((x:Int)+0)=(x:Int):=by rw [Int.add_zero];exact N5 h
theorem abS (h:x<9223372036854775808):IntKind.i64.wrap ((x:Int) - 0)=(x:Int):=by rw [Int.sub_zero];exact N5 h
theorem aeF (h:@OfNat.ofNat Nat y (instOfNatNat y)<=x)(h':x<9223372036854775808):IntKind.i64.wrap ((x:Int) - @OfNat.ofNat Int y instOfNat)=((x - @OfNat.ofNat Nat y (instOfNatNat y):Nat):Int):=ws1 h h'
theorem aeG (h:x*@OfNat.ofNat Nat y (instOfNatNat y)<9223372036854775808):IntKind.i64.wrap ((x:Int)*@OfNat.ofNat Int y instOfNat)=((x*@OfNat.ofNat Nat y (instOfNatNat y):Nat):Int):=wm1 h
theorem abT (h:@OfNat.ofNat Nat y (instOfNatNat y)*x<9223372036854775808):IntKind.i64.wrap (@OfNat.ofNat Int y instOfNat*(x:Int))=((@OfNat.ofNat Nat y (instOfNatNat y)*x:Nat):Int):=wm1 h
theorem aeH (h':x<9223372036854775808):IntKind.i64.wrap (((x:Int)).tdiv (@OfNat.ofNat Int y instOfNat))=((x / @OfNat.ofNat Nat y (instOfNatNat y):Nat):Int):=YO h'
theorem aeI:((x:Int)).tmod (@OfNat.ofNat Int y instOfNat)=((x % @OfNat.ofNat Nat y (instOfNatNat y):Nat):Int):=YP
theorem Xo (h':x<9223372036854775808):IntKind.i64.wrap (((x:Int)).tdiv (y:Int))=((x / y:Nat):Int):=by
 have e:((x:Int)).tdiv (y:Int)=((x / y:Nat):Int):=by rw [Int.tdiv_eq_ediv_of_nonneg oZ];rfl
 have h2:=Nat.div_le_self x y
 rw [e]
 generalize x / y=q at *
 exact IntWalk.i64_in _ oZ
theorem abU:((x:Int)).tmod (y:Int)=((x % y:Nat):Int):=by rw [Int.tmod_eq_emod_of_nonneg oZ];rfl
theorem aeJ (h:x+@OfNat.ofNat Nat y (instOfNatNat y)<18446744073709551616):IntKind.u64.wrap ((x:Int)+@OfNat.ofNat Int y instOfNat)=((x+@OfNat.ofNat Nat y (instOfNatNat y):Nat):Int):=by
 show IntKind.u64.wrap ((x:Int)+(y:Int))=((x+y:Nat):Int)
 have h':x+y<18446744073709551616:=h
 rw [IntWalk.u64_in _ oZ];omega
theorem aeK {j:Nat}(h:x*2 ^ j<18446744073709551616):IntKind.u64.wrap ((x:Int)*2 ^ ((j:Nat):Int).toNat)=((x*2 ^ j:Nat):Int):=abt h
theorem Zj {bs:List UInt8}{i:Nat}{c:UInt8}(h:bs[i]? = some c):(au bs)[i]? = some (.int .u8 c.toNat):=by simp [au,h]
theorem Zk {α:Type}{f:α->Value}{l:List α}{i:Nat}{a:α}(h:l[i]? = some a):(l.map f)[i]? = some (f a):=by simp [h]
theorem eC {α:Type}{l:List α}{i:Nat}(h:i<l.length):∃x,l[i]? = some x:=⟨_,getElem?_eq_getElem h⟩
theorem z00 {s:Nat}:0+0*s=0:=oZ
theorem z01 {i:Nat}:0+i*1=i:=oZ
theorem z02 {i s:Nat}:0+i*s=i*s:=oZ
theorem z03 {o i:Nat}:o+i*1=o+i:=oZ
theorem aeL:@OfNat.ofNat Int y instOfNat=((@OfNat.ofNat Nat y (instOfNatNat y):Nat):Int):=rfl
end
theorem cells {p:Prop}(h:p:=by first | assumption | exact Zj (by assumption) | exact Zk (by assumption) | exact aed (by assumption) | exact aee (by assumption) | exact rfl):p:=h
theorem abV {p:Prop}(h:p:=by first | assumption | exact aP _ | exact Oc _ | exact abW _):p:=h
theorem arith {p:Prop}(h:p:=by first
 | (with_reducible assumption)
 | (with_reducible exact wu8 _) | (with_reducible exact wi8 _) | ((with_reducible refine aeK ?_);assumption) | ((with_reducible refine oru ?_ ?_);assumption;assumption)
 | ((with_reducible refine abR ?_);omega) | ((with_reducible refine abS ?_);omega) | ((with_reducible refine wa1 ?_);omega) | ((with_reducible refine aeE ?_);omega) | ((with_reducible refine ws1 ?_ ?_);omega;omega) | ((with_reducible refine aeF ?_ ?_);omega;omega)
 | ((with_reducible refine aeG ?_);omega) | ((with_reducible refine abT ?_);omega) | ((with_reducible refine wm1 ?_);omega)
 | ((with_reducible refine aeH ?_);omega) | (with_reducible exact aeI) | ((with_reducible refine Xo ?_);omega) | (with_reducible exact abU) | ((with_reducible refine aeJ ?_);omega)
 | ((with_reducible refine N5 ?_);omega) | ((with_reducible refine Gx ?_);omega) | ((with_reducible refine YQ ?_);omega) | ((with_reducible refine N6 ?_);omega) | exact rfl):p:=h
theorem szs {p:Prop}(h:p:=by constructor <;> (try simp only [maxLen]) <;> omega):p:=h
theorem TV {p:Prop}(h:p:=by first | exact Zb (by assumption) mem rfl | exact aev (by assumption) mem rfl | exact agE rfl | exact aew mem rfl rfl oZ rfl):p:=h
theorem lens {p:Prop}(h:p:=by first | omega | (refine ⟨?_, ?_, ?_, ?_⟩ <;> omega) | ((try simp only [length_replicate,length_append,length_map,length_cons,length_nil,aq,length_take,length_drop]) <;> omega)):p:=h
theorem Nq {p:Prop}(h:p:=by first | exact Bd.none | (apply Bd.some;exact rfl;exact nn)):p:=h
theorem Zl {p q:Int}(h:p≠q):(p != q)=true:=by simp [h]
theorem Zm {p q:Int}(h:p=q):(p != q)=false:=by simp [h]
theorem TW {b:Bool}(h:b=false):(!b)=true:=by rw [h];rfl
theorem TX {b:Bool}(h:b=true):(!b)=false:=by rw [h];rfl
theorem place {p:Prop}(h:p:=by first | (with_reducible first | exact z00 | exact z01 | exact z02 | exact z03 | exact Nat.add_assoc _ _ _) | exact rfl):p:=h
theorem nn {p:Prop}(h:p:=by first | (with_reducible exact rfl) | exact aeL | exact rfl):p:=h
theorem om {p:Prop}(h:p:=by first | omega | decide):p:=h
theorem Xp {p:Prop}(h:p:=by refine ⟨?_, ?_⟩ <;> (try simp only [IntKind.bits]) <;> omega):p:=h
theorem aeM {a:Value}:one [a]=a:=rfl
theorem TY {p:Prop}(h:p:=by first | exact aeM | exact agF | exact agG | exact agH | exact agI):p:=h
theorem abX {p:Prop}(h:p:=by first | exact True.intro | decide | omega):p:=h
end Go.Sl
namespace Go.Proofs.YtpabnmeponmonaaGreatDoor
theorem Zn {p:Prop}(h:p:=by first | exact aen | exact aeo | exact aep | exact aeq | exact aer | exact aes | exact aet):p:=h
abbrev Ct (g:FuncId)(args:List Value)(As:List Chunk)(cB:Value->List Chunk->Prop):Prop:=Np prog g args As cB
section
variable {X:Cx}{f:Fx}{c:Code}{k:Kt}{e:Env}{Ls Ms:List Chunk}{ops:List Oper}{r:aB}{x:Exit}
theorem WS.id (h:WS X f c k e Ls):WS X f c k e Ls:=h
theorem WE.id (h:WE X f x k e Ls):WE X f x k e Ls:=h
theorem WO.id (h:WO X f ops k Ms r e Ls):WO X f ops k Ms r e Ls:=h
def Zo:List Nat->aB
 | []=>.nil
 | x :: l=>.cons (x / 4,x % 4) (Zo l)
theorem ar {p:Prop}(h:p:=by repeat (first | exact I0 | refine vN rfl rfl ?_ | refine vN rfl (by first | exact congrArg _ oZ | exact congrArg _ (congrArg _ oZ)) ?_)):p:=h
theorem aps {p:Prop}(h:p:=by repeat (first | exact Ap.nil | apply Ap.cons)):p:=h
theorem aeN {p:Prop}(h:p:=by repeat (first | exact TQ.nil | (apply TQ.cons;exact rfl))):p:=h
theorem rrs {p:Prop}(h:p:=by repeat (first | exact RR.nil | (apply RR.tmp;exact rfl) | (apply RR.abG;exact rfl;exact mem;exact rfl;exact rfl) | (apply RR.abH;exact rfl;exact mem;exact rfl;exact lens) | (apply RR.one;exact rfl;exact mem;exact rfl;exact rfl))):p:=h
structure LP {ι:Type}(l:List Nat)(V:ι->Env)(L:ι->List Chunk)(φ:ι->Prop)(μ:ι->Nat)(x:ι):Prop where
 h:φ x
theorem WS.abY {ι:Type}{l:List Nat}{V:ι->Env}{L:ι->List Chunk}{φ:ι->Prop}{μ:ι->Nat}{x:ι}{Z:Env}{Rs:List Chunk}(p:LP l V L φ μ x)(hZ:TQ e l Z)(hV:KM e (V x))(hL:iv Ls (L x) Rs)
  (body:∀x,φ x->WB X f c (.Ov (fun e' bm=>∃y,φ y/\μ y<μ x/\KM e' (V y++Z)/\∃Qs,iv bm (L y++Rs) Qs) k) (V x) Z (L x) Rs):WS X f (.loop c) k e Ls:=.loop l V L φ μ x hZ p.h hV hL body
def OL:Op->Bool
 | .move _ | .assign _ | .pick .. | .load .. | .nilCheck _ | .binOp .. | .unOp .. | .fieldAddr .. | .field .. | .indexAddr .. | .index .. | .extract .. | .makeFunc .. | .lookup .. | .slice .. | .build .. => true
 | .call ⟨.builtin .len,_,_⟩ | .call ⟨.builtin .cap,_,_⟩ | .call ⟨.builtin .min,_,_⟩ | .call ⟨.builtin .max,_,_⟩=>true
 | _=>false
def Dj:List Oper->Bool
 | []=>true
 | [o]=>cn o
 | o :: l=>OL o.op&&Dj l
def I4:List Oper->Bool
 | []=>true
 | o :: l=>OL o.op&&I4 l
def ON:Nat->Nat->aB
 | _,0=>.nil
 | i,m+1=>.cons (i,0) (ON (i+1) m)
def OO:Nat->Nat->aB
 | _,0=>.nil
 | i,1=>.cons (i,3) .nil
 | i,m+2=>.cons (i,0) (OO (i+1) (m+1))
theorem I5 {o:Oper}(h:OL o.op=true):cn o=true:=by
 unfold cn
 split
 ·rename_i hc;rw [hc] at h;cases h
 ·rfl
theorem Dm:∀ {l:List Oper},I4 l=true->l.all cn=true
 | [],_=>rfl
 | o :: l,h=>by
  simp only [I4,Bool.and_eq_true] at h
  rw [all_cons,I5 h.1,Dm h.2];rfl
theorem Dp:∀ {l:List Oper},Dj l=true->l.all cn=true
 | [],_=>rfl
 | [o],h=>by simp only [Dj] at h;simp [h]
 | o :: p :: l,h=>by
  simp only [Dj,Bool.and_eq_true] at h
  rw [all_cons,I5 h.1,Dp h.2];rfl
theorem WS.Zp {id:Nat}(hm:X.P.follows .mixedOrders=true)(hB:(I4 ops&&lQ ops.toArray (ON 0 ops.length))=true)(h:WO X f ops k Ls (ON 0 ops.length) e Ls):WS X f (.region id ops.toArray true) k e Ls:=by
 rw [Bool.and_eq_true] at hB
 exact .drawn hm _ (Dm hB.1) hB.2 Ls (fun _ h=>h) h
theorem WS.Zq {id:Nat}(hm:X.P.follows .mixedOrders=true)(hB:(Dj ops&&lQ ops.toArray (OO 0 ops.length))=true)(h:WO X f ops k Ls (OO 0 ops.length) e Ls):WS X f (.region id ops.toArray true) k e Ls:=by
 rw [Bool.and_eq_true] at hB
 exact .drawn hm _ (Dp hB.1) hB.2 Ls (fun _ h=>h) h
structure OP (o:List Nat):Prop
theorem WS.Zr {o:List Nat}(_:OP o){id:Nat}(hm:X.P.follows .mixedOrders=true)(hB:(ops.all cn&&lQ ops.toArray (Zo o))=true)(h:WO X f ops k Ls (Zo o) e Ls):WS X f (.region id ops.toArray true) k e Ls:=by
 rw [Bool.and_eq_true] at hB
 exact .drawn hm (Zo o) hB.1 hB.2 Ls (fun _ h=>h) h
structure OQ (o:aB):Prop
theorem WS.Zs {o:aB}(_:OQ o){id:Nat}(hm:X.P.follows .mixedOrders=true)(hB:(ops.all cn&&lQ ops.toArray o)=true)(h:WO X f ops k Ls o e Ls):WS X f (.region id ops.toArray true) k e Ls:=by
 rw [Bool.and_eq_true] at hB
 exact .drawn hm o hB.1 hB.2 Ls (fun _ h=>h) h
structure OM (Ms:List Chunk)(o:List Nat):Prop
theorem WS.Zt {Ms:List Chunk}{o:List Nat}(_:OM Ms o){id:Nat}(hm:X.P.follows .mixedOrders=true)(hB:(ops.all cn&&lQ ops.toArray (Zo o))=true)(hM:∀C∈Ms,C∈Ls)(h:WO X f ops k Ms (Zo o) e Ls):WS X f (.region id ops.toArray true) k e Ls:=by
 rw [Bool.and_eq_true] at hB
 exact .drawn hm (Zo o) hB.1 hB.2 Ms hM h
theorem fin {cB:Value->List Chunk->Prop}{u:Value}{Bs Rs:List Chunk}(h:cB u Bs)(s:iv Ls Bs Rs):sw cB u Ls:=⟨_,_,s,h⟩
end
theorem st {g:FuncId}{args:List Value}{As:List Chunk}{cB:Value->List Chunk->Prop}{fn:Func}{c:Code}{n:Nat}{e:Env}(hf:prog.funcs[g]? = some fn)(h:∀w0,WS ⟨prog,KR,w0,As,none,[]⟩ ⟨fn,n,sw cB⟩ c .top e As)
 (hb:fn.body=some c:=by exact rfl) (hn:fn.ntmps=n:=by exact rfl) (hs:Nat.ble args.length n=true:=by exact rfl) (he:num 0 args=e:=by exact Zn):Ct g args As cB:=Np.mk (T:=KR) hf hb hn hs he h
theorem sw.id {cB:Value->List Chunk->Prop}{u:Value}{Ls:List Chunk}(h:sw cB u Ls):sw cB u Ls:=h
structure im (H:Prop):Prop where
 out:H
theorem go {G H:Prop}(k:H)(h:im H->G:=by
 intro kk
 repeat (first
  | (refine WO.id ?_;first
   | refine WO.run aD rfl ?_
   | refine WO.nil ?_
   | refine WO.one aD rfl rfl ?_
   | (apply WO.not;exact rfl;exact rfl;exact rfl;exact rfl;exact rfl;exact keeps)
   | (refine WO.dec rfl ?_;first
    | (apply WD.load;exact rfl;exact rfl;exact aD;exact rfl;exact mem;exact rfl)
    | (apply WD.abC;exact rfl;exact rfl;exact aD;exact rfl;assumption;exact mem;exact cells)
    | (apply WD.load;exact rfl;exact rfl;exact aD;exact rfl;exact mem;exact cells)
    | (apply WD.ari;exact rfl;exact rfl;exact rfl;exact rfl;exact rfl;exact abX;exact arith)
    | (apply WD.abD;exact rfl;exact rfl;exact aD;exact rfl;exact mem;exact rfl)
    | (apply WD.abE;exact rfl;exact rfl;exact aD;exact rfl;exact mem;exact lens)
    | (apply WD.abM;exact rfl;exact rfl;exact aD;exact rfl;exact mem;assumption;(first | exact rfl | exact lens))
    | (apply WD.Y3;exact rfl;exact rfl;exact aD;exact rfl;assumption;exact mem;assumption;(first | exact rfl | exact lens))
    | (apply WD.Y2;exact rfl;exact rfl;exact aD;exact rfl;assumption;exact mem;exact lens)
    | (apply WD.ixA;exact rfl;exact rfl;exact rfl;exact aD;exact rfl;exact nn;exact om;exact cells)
    | (apply WD.s2a;exact rfl;exact rfl;exact aD;exact rfl;exact om)
    | (apply WD.str;exact rfl;exact rfl;exact aD;exact rfl;exact rfl;exact rfl;assumption;exact mem)
    | (apply WD.mark;exact rfl;exact rfl;exact aD;exact rfl;exact rfl;exact pick;exact keeps)
    | (apply WD.eqA;exact rfl;exact rfl;exact rfl;exact aD;exact rfl;show KH prog _=true;decide +kernel)
    | (apply WD.neA;exact rfl;exact rfl;exact rfl;exact aD;exact rfl;show KH prog _=true;decide +kernel)
    | (apply WD.S6;exact rfl;exact rfl;exact arith)
    | (apply WD.idx;exact rfl;exact rfl;exact rfl;exact aD;exact rfl;exact nn;exact om;exact place)
    | (apply WD.aek;exact rfl;exact rfl;exact rfl;exact aD;exact rfl;exact nn;exact om;exact place)
    | (apply WD.ael;exact rfl;exact rfl;exact aD;exact rfl;exact place)
    | (apply WD.lkY;exact rfl;exact rfl;exact rfl;exact aD;exact rfl;assumption;exact mem;(first | assumption | exact rfl))
    | (apply WD.lkN;exact rfl;exact rfl;exact rfl;exact aD;exact rfl;exact rfl;assumption;exact mem;(first | assumption | exact rfl))
    | (apply WD.eqP;exact rfl;exact rfl;exact rfl;exact aD;exact rfl;assumption;exact mem)
    | (apply WD.neP;exact rfl;exact rfl;exact rfl;exact aD;exact rfl;assumption;exact mem)
    | (apply WD.sl0;exact rfl;exact rfl;exact aD;exact rfl;exact Nq;exact Nq;exact Nq;exact rfl)
    | (apply WD.mkB;exact rfl;exact rfl;exact rfl)
    | (apply WD.slP;exact rfl;exact rfl;exact aD;exact rfl;exact rfl)
    | (apply WD.aeD;exact rfl;exact rfl;exact aD;exact rfl;assumption;exact mem)
    | (apply WD.conv;exact rfl;exact rfl;exact aD;exact rfl;exact rfl;exact arith)
    | (apply WD.Y6;exact rfl;exact rfl;exact rfl;exact rfl;exact aD;exact rfl;exact pick;exact rfl;exact keeps)
    | (apply WD.Y7;exact rfl;exact rfl;exact rfl;exact rfl;exact aD;exact rfl;exact pick;exact rfl;exact keeps)
    | (apply WD.store;exact rfl;exact rfl;exact rfl;exact rfl;exact aD;exact rfl;exact pick;exact lens;exact keeps)
    | (apply WD.Ak;exact rfl;exact rfl;exact rfl;exact rfl;exact aD;exact rfl;exact pick;exact om;exact rfl;exact keeps)
    | (apply WD.Y8;exact rfl;exact rfl;exact rfl;exact aD;exact rfl;exact pick;exact abV;exact lens;exact lens;exact keeps)
    | (apply WD.shl;exact rfl;exact rfl;exact rfl;exact Xp;exact arith)
    | (apply WD.shr;exact rfl;exact rfl;exact rfl;exact Xp;exact arith)
    | (apply WD.neg;exact rfl;exact rfl;exact arith))
   | (apply Ox;exact rfl;exact rfl;exact rfl;exact rfl;exact rfl;first | exact decide_eq_true oZ | exact decide_eq_false oZ | exact abZ oZ | exact ab0 oZ | exact Zl oZ | exact Zm oZ | exact TW (decide_eq_false oZ) | exact TX (decide_eq_true oZ)))
  | (refine WS.id ?_;first
   | refine WS.seq ?_
   | (apply WS.region;exact rfl)
   | (apply WS.Zp;exact rfl;decide +kernel)
   | (apply WS.Zq;exact rfl;decide +kernel)
   | refine WS.skip ?_
   | refine WS.gB ?_
   | (apply WS.yes;exact rfl;first | exact rfl | exact decide_eq_true oZ | exact abZ oZ | exact Zl oZ | exact TW (decide_eq_false oZ) | exact TW (ab0 oZ) | exact TW (Zm oZ))
   | (apply WS.no;exact rfl;first | exact rfl | exact decide_eq_false oZ | exact ab0 oZ | exact Zm oZ | exact TX (decide_eq_true oZ) | exact TX (abZ oZ) | exact TX (Zl oZ))
   | refine WS.exit ?_
   | refine WS.ret ?_)
  | (refine WE.id ?_;first
   | refine WE.seq ?_
   | refine WE.gB ?_
   | refine WE.exit rfl ?_
   | refine WE.aej ?_
   | (apply WE.res;exact rfl;exact TY)
   | (apply WE.aeu;exact aD;exact rrs;exact TY))
  | refine WK.mk keeps ?_
  | (apply WC.on;exact aps;exact keeps)
  | (apply WB.on;exact aps;exact aps))
 try change sw _ _ _
 exact kk.out):G:=h ⟨k⟩
theorem gz {G H:Prop}(k:H)(h:im H->G:=by intro kk;refine go ?_;refine sw.id ?_;exact kk.out):G:=h ⟨k⟩
theorem ga {G H:Prop}(k:H)(h:im H->G:=by
 intro kk;refine go ?_;refine WO.dec rfl ?_
 first
 | (apply WD.box;exact rfl;exact rfl;exact rfl;exact keeps;exact kk.out)
 | (apply WD.aem;exact rfl;exact rfl;exact keeps;exact kk.out)
 | (apply WD.alloc;exact rfl;exact aD;exact rfl;exact keeps;exact kk.out)):G:=h ⟨k⟩
theorem gc {G H:Prop}{g:FuncId}{args:List Value}{As:List Chunk}{cB:Value->List Chunk->Prop}(s:Ct g args As cB)(k:H)(h:Ct g args As cB->im H->G:=by
 intro ss kk;refine go ?_;refine WO.dec rfl ?_
 apply WD.call (s:=ss);(case hκ=>exact rfl);(case ha=>exact rfl);(case hT=>exact aD);(case hf=>exact rfl);(case hv=>(first | exact rfl | (simp;done) | (congr;done)));(case hs=>exact aa);exact kk.out):G:=h s ⟨k⟩
theorem ge {G H:Prop}(k:H)(h:im H->G:=by
 intro kk;refine go ?_;refine WO.dec rfl ?_
 apply WD.enter;exact rfl;exact rfl;exact aD;exact rfl;exact rfl;exact rfl;exact rfl;exact Zn;exact go kk.out):G:=h ⟨k⟩
theorem gs {G H:Prop}(k:H)(h:im H->G:=by
 intro kk;(try first | refine WK.mk keeps ?_ | (apply WC.on;exact aps;exact keeps) | (apply WB.on;exact aps;exact aps))
 first | (apply WO.spl;exact Zi;exact kk.out) | (apply WS.spl;exact Zi;exact kk.out) | (apply WE.spl;exact Zi;exact kk.out)):G:=h ⟨k⟩
theorem gm {G H:Prop}(k:H)(h:im H->G:=by
 intro kk;refine go ?_;refine WO.dec rfl ?_
 first
 | (apply WD.make;exact rfl;exact rfl;exact rfl;exact aD;exact rfl;exact nn;exact nn;exact szs;exact keeps;exact kk.out)
 | (apply WD.abI;exact rfl;exact rfl;exact rfl;exact aD;exact rfl;exact nn;exact nn;exact rfl;exact szs;exact keeps;exact kk.out)
 | (apply WD.aeA;exact rfl;exact rfl;exact aD;exact rfl;exact rfl;exact lens;exact keeps;exact kk.out)
 | (apply WD.bsl;exact rfl;exact rfl;exact aD;exact rfl;exact rfl;exact rfl;exact keeps;exact kk.out)
 | (apply WD.aeB;exact rfl;exact aD;exact rfl;exact keeps;exact kk.out)):G:=h ⟨k⟩
theorem gp {G H:Prop}(k:H)(h:im H->G:=by
 intro kk;refine go ?_;refine WO.dec rfl ?_
 first
 | (apply WD.app;exact rfl;exact rfl;exact rfl;exact aD;exact rfl;assumption;exact pick;exact TV;exact szs;exact keeps;exact kk.out)
 | (apply WD.aex;exact rfl;exact rfl;exact rfl;exact aD;exact rfl;exact TV;exact szs;exact keeps;exact kk.out)):G:=h ⟨k⟩
theorem gpi {G H:Prop}(k:H)(h:im H->G:=by
 intro kk;refine go ?_;refine WO.dec rfl ?_
 apply WD.aeC;exact rfl;exact rfl;exact rfl;exact aD;exact rfl;exact pick;exact TV;exact om;exact lens;(first | assumption | exact rfl);exact keeps;exact kk.out):G:=h ⟨k⟩
theorem gu {G H:Prop}(k:H)(h:im H->G:=by
 intro kk;refine go ?_;refine WO.dec rfl ?_
 apply WD.aey;exact rfl;exact rfl;exact rfl;exact rfl;exact aD;exact rfl;assumption;exact pick;exact keeps;exact kk.out):G:=h ⟨k⟩
theorem gx {G H:Prop}(k:H)(h:im H->G:=by
 intro kk;refine go ?_;refine WO.dec rfl ?_
 first
 | (apply WD.Xn;exact rfl;exact rfl;exact rfl;exact aD;exact rfl;assumption;assumption;exact pick;exact keeps;exact kk.out)
 | (apply WD.aez;exact rfl;exact rfl;exact rfl;exact aD;exact rfl;assumption;assumption;exact pick;exact keeps;exact kk.out)):G:=h ⟨k⟩
theorem gr {G H:Prop}(k:H)(h:im H->G:=by
 intro kk;refine go ?_;refine WO.dec rfl ?_
 apply WD.Zd;exact rfl;exact rfl;exact aD;exact rfl;assumption;exact pick;exact keeps;exact kk.out):G:=h ⟨k⟩
theorem gy {G H:Prop}(k:H)(h:im H->G:=by
 intro kk;refine go ?_;refine WO.dec rfl ?_
 apply WD.abJ;exact rfl;exact rfl;exact rfl;exact aD;exact rfl;assumption;exact mem;exact rfl;exact pick;exact lens;(first | assumption | exact rfl);exact keeps;exact kk.out):G:=h ⟨k⟩
theorem gw {G H:Prop}(k:H)(h:im H->G:=by
 intro kk;refine go ?_;refine WO.dec rfl ?_
 apply WD.sl;exact rfl;exact rfl;exact aD;exact rfl;exact Nq;exact Nq;exact Nq;exact rfl;exact lens;assumption;(first | assumption | exact rfl);(first | assumption | exact rfl);exact kk.out):G:=h ⟨k⟩
theorem gv {G H:Prop}(k:H)(h:im H->G:=by
 intro kk;refine go ?_;refine WO.dec rfl ?_
 apply WD.slA;exact rfl;exact rfl;exact aD;exact rfl;exact Nq;exact Nq;exact Nq;exact rfl;exact lens;exact place;(first | assumption | exact rfl);exact kk.out):G:=h ⟨k⟩
theorem gi {G H1 H2:Prop}(k1:H1)(k2:H2)(h:im H1->im H2->G:=by intro k1 k2;refine go ?_;refine WS.cond rfl ?_ ?_;exact k1.out;exact k2.out):G:=h ⟨k1⟩ ⟨k2⟩
theorem gg {G H1 H2:Prop}(k1:H1)(k2:H2)(h:im H1->im H2->G:=by intro k1 k2;refine go ?_;refine Dg rfl rfl rfl rfl rfl ?_ ?_;exact k1.out;exact k2.out):G:=h ⟨k1⟩ ⟨k2⟩
theorem gl {G H:Prop}{ι:Type}(l:List Nat)(V:ι->Env)(L:ι->List Chunk)(φ:ι->Prop)(μ:ι->Nat)(x:ι)(hx:φ x)(k:H)(h:LP l V L φ μ x->im H->G:=by
 intro lp kk;refine go ?_
 apply WS.abY lp;exact aeN;exact ar;exact aa;exact kk.out):G:=h ⟨hx⟩ ⟨k⟩
theorem gd {G H:Prop}(o:List Nat)(k:H)(h:OP o->im H->G:=by
 intro oo kk;refine go ?_;refine WS.Zr oo ?_ ?_ ?_;exact rfl;kernel_rfl;exact kk.out):G:=h ⟨⟩ ⟨k⟩
theorem rQ {G H:Prop}(Ms:List Chunk)(o:List Nat)(k:H)(h:OM Ms o->im H->G:=by
 intro oo kk;refine go ?_;refine WS.Zt oo ?_ ?_ ?_ ?_;exact rfl;kernel_rfl;(repeat (first | exact OJ | (apply OK;exact mem)));exact kk.out):G:=h ⟨⟩ ⟨k⟩
theorem gdo {G H:Prop}(o:aB)(k:H)(h:OQ o->im H->G:=by
 intro oo kk;refine go ?_;refine WS.Zs oo ?_ ?_ ?_;exact rfl;kernel_rfl;exact kk.out):G:=h ⟨⟩ ⟨k⟩
theorem gk {G H1 H2:Prop}(k1:H1)(k2:H2)(h:im H1->im H2->G:=by intro k1 k2;refine go ?_;refine WO.fork ?_ ?_;exact k1.out;exact k2.out):G:=h ⟨k1⟩ ⟨k2⟩
theorem gn {G H:Prop}(k:H)(h:im H->G:=by intro kk;refine go ?_;refine WE.Ov ?_;exact kk.out):G:=h ⟨k⟩
end Go.Proofs.YtpabnmeponmonaaGreatDoor
