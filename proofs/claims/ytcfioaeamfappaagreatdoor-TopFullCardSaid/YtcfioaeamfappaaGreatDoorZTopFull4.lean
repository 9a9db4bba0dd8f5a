/-
  Texts put together (4).
-/
import Derived.Test.YtcfioaeamfappaaGreatDoorZTopFull3
namespace Go.Sl
def mkI (T:aU)(t:TypeId):Option (Value×TypeId×Nat):=match T.ko t with
 | some (.slice el)=>match T.ty el with
  | some i=>match i.zero,i.size with
   | some (.agg _),_=>none
   | some (.tuple _),_=>none
   | some z,1=>lit i.bytes fun b=>some (z,el,b)
   | _,_=>none
  | none=>none
 | _=>none
theorem XF {P:Program}{T:aU}(hT:T.Ok P){t el:TypeId}{z:Value}{iG:Nat}(h:mkI T t=some (z,el,iG)) :
  ∃i,P.underlying t=some (.slice el)/\P.info? el=some i/\i.zero=some z/\i.size=1/\z.cells=#[z]/\z.oneCell'=true/\i.bytes=iG:=by
 unfold mkI at h
 split at h
 ·rename_i el' he
  split at h
  ·rename_i i hi
   split at h
   ·cases h
   ·cases h
   ·rename_i z' h1 h2 hz hs
    rw [ui] at h
    cases h
    refine ⟨i,aU.aR hT he,hT.ty _ _ hi,hz,hs, ?_, ?_,rfl⟩
    ·cases z <;> first | rfl | exact absurd rfl (h1 _)
    ·cases z <;> first | rfl | exact absurd rfl (h1 _) | exact absurd rfl (h2 _)
   ·cases h
  ·cases h
 ·cases h
def HO (T:aU)(t:TypeId):Option (TypeId×Nat×Nat×Value):=match T.ko t with
 | some (.slice el)=>match T.ty el with
  | some i=>match i.zero with
   | some z=>match Nat.beq z.cells.size i.size with
    | true=>lit i.size fun s=>lit i.bytes fun b=>some (el,s,b,z)
    | false=>none
   | none=>none
  | none=>none
 | _=>none
theorem iH {P:Program}{T:aU}(hT:T.Ok P){t el:TypeId}{s iG:Nat}{z:Value}(h:HO T t=some (el,s,iG,z)) :
  ∃i,P.underlying t=some (.slice el)/\P.info? el=some i/\i.zero=some z/\i.size=s/\z.cells.size=s/\i.bytes=iG:=by
 unfold HO at h
 split at h
 ·rename_i el' he
  split at h
  ·rename_i i hi
   split at h
   ·rename_i z' hz
    split at h
    ·rename_i hb;rw [ui,ui] at h;cases h;exact ⟨i,aU.aR hT he,hT.ty _ _ hi,hz,rfl,Nat.eq_of_beq_eq_true hb,rfl⟩
    ·cases h
   ·cases h
  ·cases h
 ·cases h
def FN (T:aU)(t:TypeId):Bool:=match T.ko t with
 | some (.slice _)=>true
 | _=>false
theorem zi {P:Program}{T:aU}(hT:T.Ok P){t:TypeId}(h:FN T t=true):∃el,P.underlying t=some (.slice el):=by
 unfold FN at h
 split at h
 ·rename_i el he;exact ⟨el,aU.aR hT he⟩
 ·cases h
def FO (T:aU)(Ls:List Chunk)(s:Nat)(tx:TypeId)(u:Value)(m:Nat)(ys:List Value):Prop:=∀P w,T.Ok P->lR Ls w->Src P s tx u m ys w
theorem XG {T:aU}{Ls:List Chunk}{C:Chunk}{s m:Nat}{tx:TypeId}{u:Value}{ys:List Value}(h:Rd C s u m ys)(hm:C∈Ls)(ht:FN T tx=true):FO T Ls s tx u m ys:=fun _ _ hT S=>(zi hT ht).elim fun _ he=>h.src (S.at hm) he
theorem acD {T:aU}{Ls:List Chunk}{C:Chunk}{el:TypeId}{s m:Nat}{tx:TypeId}{u:Value}{ys:List Value}(h:az C el s u m ys)(hm:C∈Ls)(ht:FN T tx=true):FO T Ls s tx u m ys:=XG h.rd hm ht
theorem acE {T:aU}{Ls:List Chunk}{g:Nat}{el:TypeId}{s m c:Nat}{tx:TypeId}{ys:List Value}(hm:[(g,av ys el)]∈Ls)(hx:ys.length=m*s)(h1:ys.all (·.oneCell')=true)(hc:m<=4611686018427387904)(ht:FN T tx=true):FO T Ls s tx (.slice (some ⟨g,0,none⟩) m c) m ys :=
 XG (aw hx (fun u hu=>List.all_eq_true.1 h1 u hu) hc c) hm ht
section
variable {X:Cx}{f:Fx}{k:Kt}{e:Env}{Ls Rs:List Chunk}{ops:List Oper}{Ms:List Chunk}{r':aA}{κ d:Nat}{v:Value}{t tx el:TypeId}{x y z:Operand}
theorem WD.make {zv:Value}{iG m:Nat}{kl kc:IntKind}{q q':Int}(hκ:dD κ=true)(hx:ev e x=some (.int kl q))(hy:ev e y=some (.int kc q'))(hT:X.T.Ok X.P)(hi:mkI X.T t=some (zv,el,iG))(hq:q=(m:Int))(mZ:q'=(m:Int))(hb:iG*m<=281474976710656/\m<=maxLen)
  (hM:cJ κ Ms Ls) (g:∀b,WO X f ops k Ms r' ((d,.slice (some ⟨b,0,none⟩) m m) :: e) ([(b,av (List.replicate m zv) el)] :: Ls)):WD X f ops k Ms κ (some d) (.makeSlice t x y) r' e Ls:=by
 obtain ⟨i,h1,h2,h3,h4,h5,h6,h7⟩:=XF hT hi
 exact .ac hκ fun _ _ _ ho hd hn E S=>Mu E S ho hd (hn d rfl) hx hy hq mZ h1 h2 h3 h4 h5 h6 h7 hb.1 hb.2 fun _ _ b E' S'=>KO.mk rfl (fun h C hC=>List.mem_cons_of_mem _ (hM h C hC)) (g b) E' S'
theorem WD.aaA {zv:Value}{iG m s:Nat}{kl kc:IntKind}{q q':Int}(hκ:dD κ=true)(hx:ev e x=some (.int kl q))(hy:ev e y=some (.int kc q'))(hT:X.T.Ok X.P)(hi:HO X.T t=some (el,s,iG,zv))(hq:q=(m:Int))(mZ:q'=(m:Int))(h1:zv.cells.toList.all (·.oneCell')=true)(hb:iG*m<=281474976710656/\m<=maxLen)
  (hM:cJ κ Ms Ls) (g:∀b C,az C el s (.slice (some ⟨b,0,none⟩) m m) m (List.replicate m zv.cells.toList).flatten->WO X f ops k Ms r' ((d,.slice (some ⟨b,0,none⟩) m m) :: e) (C :: Ls)):WD X f ops k Ms κ (some d) (.makeSlice t x y) r' e Ls:=by
 obtain ⟨i,g1,g2,g3,g4,g5,g6⟩:=iH hT hi
 subst g4 g6
 have hz:kh zv.cells (m*i.size)=(List.replicate m zv.cells.toList).flatten:=by
  have h:=xQ zv m
  rw [g5] at h
  unfold kh madeCells
  rw [g5,h]
 refine .ac hκ fun _ _ _ ho hd hn E S=>pa E S ho hd (hn d rfl) hx hy hq mZ g1 g2 g3 (fun u hu => ?_) hb.1 hb.2 fun _ _ v' C E' S' hB hv => ?_
 ·rw [hz] at hu
  obtain ⟨l,hl,zj⟩:=List.mem_flatten.1 hu
  rw [(List.mem_replicate.1 hl).2] at zj
  exact List.all_eq_true.1 h1 u zj
 ·obtain ⟨b,rfl⟩:=hv
  rw [hz] at hB
  exact KO.mk rfl (fun h C hC=>List.mem_cons_of_mem _ (hM h C hC)) (g b C hB) E' S'
theorem WD.app {C:Chunk}{iG m s q:Nat}{u zv:Value}{xs ys:List Value}(hκ:dD κ=true)(hx:ev e x=some v)(hy:ev e y=some u)(hT:X.T.Ok X.P)(hi:HO X.T t=some (el,s,iG,zv))(hB:az C el s v q xs)(hp:Ls.Perm (C :: Rs))(hs:FO X.T Ls s tx u m ys)(hb:q+m<=maxLen/\(q+m)*iG<=140737488355328)
  (hM:cJ κ Ms Rs) (g:∀ad c C',az C' el s (.slice ad (q+m) c) (q+m) (xs++ys)->WO X f ops k Ms r' ((d,.slice ad (q+m) c) :: e) (C' :: Rs)):WD X f ops k Ms κ (some d) (.call ⟨.builtin .append,⟨[x,y]⟩,⟨[t,tx]⟩⟩) r' e Ls:=by
 obtain ⟨i,g1,g2,g3,g4,g5,g6⟩:=iH hT hi
 exact .ac hκ fun _ _ w ho hd hn E S=>xO E S ho hd (hn d rfl) hx hy hB hp (hs X.P w hT S.jX) g1 g2 g3 g4 g5 g6 hb.1 hb.2 fun _ _ v' C' E' S' AX=>by obtain ⟨ad,c,rfl⟩:=AX.slice;exact KO.mk rfl (fun h C hC=>List.mem_cons_of_mem _ (hM h C hC)) (g ad c C' AX) E' S'
theorem WD.aaB {C:Chunk}{b j dl dc m:Nat}{T:TypeId}{u:Value}{l l' ys:List Value}(hκ:dD κ=true)(hx:ev e x=some (.slice (some ⟨b,j,none⟩) dl dc))(hy:ev e y=some u)(hT:X.T.Ok X.P)(he:VK X.T t=some 1)(hR:Rd C 1 u m ys)(hm:C∈Ls)(ht:FN X.T tx=true)(hp:Ls.Perm ([(b,av l T)] :: Rs))(bE:j+min m dl<=l.length)(hl:l.take j++ys.take (min m dl)++l.drop (j+min m dl)=l')
  (hM:cJ κ Ms ([(b,av l' T)] :: Rs)) (g:WO X f ops k Ms r' ((d,.int .i64 (min m dl:Nat)) :: e) ([(b,av l' T)] :: Rs)):WD X f ops k Ms κ (some d) (.call ⟨.builtin .copy,⟨[x,y]⟩,⟨[t,tx]⟩⟩) r' e Ls:=by
 obtain ⟨el,g1,g2⟩:=qT hT he
 obtain ⟨_,g3⟩:=zi hT ht
 exact .ac hκ fun _ _ w ho hd hn E S=>R6 E S ho hd (hn d rfl) hx hy hp (hR.R8 (S.jX.at hm) g3) g1 g2 bE fun _ _ E' S'=>by rw [hl] at S';exact KO.mk rfl hM g E' S'
theorem WD.bsl {len iG s:Nat}{zv:Value}{ps:List (Nat×Operand)}{qs:List (Nat×Value)}{cs:List Value}(hκ:dD κ=true)(hq:pc e ps=some qs)(hT:X.T.Ok X.P)(hi:HO X.T t=some (el,s,iG,zv))(HH:(Nat.ble (len*s) 16777216&&Nat.blt 0 (len*s))=true)
  (hf:(match jN (fun j=>some (j*s,s)) (List.replicate len zv.cells.toList).flatten qs with | some cs=>force cs some | none=>none)=some cs)
  (hM:cJ κ Ms Ls) (g:∀b,WO X f ops k Ms r' ((d,.slice (some ⟨b,0,none⟩) len len) :: e) ([(b,av cs el)] :: Ls)):WD X f ops k Ms κ (some d) (.buildSlice t len ⟨ps⟩) r' e Ls:=by
 obtain ⟨i,g1,g2,g3,g4,g5,g6⟩:=iH hT hi
 subst g4
 rw [Bool.and_eq_true] at HH
 split at hf
 ·rename_i cs' hc
  rw [force_eq] at hf
  cases hf
  exact .ac hκ fun _ _ w ho hd hn E S=>xR E S ho hd (hn d rfl) hq g1 g2 g3 g5 ⟨Nat.le_of_ble_eq_true HH.1,Nat.le_of_ble_eq_true HH.2⟩ hc fun _ _ b E' S'=>KO.mk rfl (fun h C hC=>List.mem_cons_of_mem _ (hM h C hC)) (g b) E' S'
 ·cases hf
inductive Bd (e:Env):Option Operand->Nat->Nat->Prop
 | none {d:Nat}:Bd e .none d d
 | some {o:Operand} {d n:Nat} {kl:IntKind} {q:Int} (h:ev e o = .some (.int kl q)) (hq:q=(n:Int)):Bd e (.some o) d n
def okB:Option Operand->Option Operand->Option Operand->Bool
 | .none,.none,_=>false
 | _,.none,.some _=>false
 | _,_,_=>true
theorem zk {a:Act}{w:World}{o:Oper}{ad:Option Addr}{m c lo hi mx s n:Nat}{ol oh om:Option Operand}{P:Program}{el:TypeId}{ds:List Deferred}(E:Fr a n e ds)(ho:o.op = .slice t x ol oh om)(hx:ev e x=some (.slice ad m c))(g1:P.underlying t=some (.slice el))(g2:(P.info? el).map (·.size)=some s)
  (hl:Bd e ol 0 lo) (hh:Bd e oh m hi) (hm:Bd e om c mx) (aQ:okB ol oh om=true) (h1:lo<=hi) (h3:hi<=mx) (h4:mx<=c):ab P o a w (sliced ad lo hi mx s) w:=by
 cases hl <;> cases hh <;> cases hm <;> first | cases aQ | skip
 ·rename_i b1 b2;exact Fw E ho hx b1 g1 g2 b2 h3
 ·rename_i b1 b2 _ _ _ c1 c2;exact Bu E ho hx b1 c1 g1 g2 b2 c2 h3 h4
 ·rename_i b1 b2;exact Fy E ho hx b1 g1 g2 b2 h1
 ·rename_i b1 b2 _ _ _ c1 c2;exact Bp E ho hx b1 c1 g1 g2 b2 c2 h1 h3
 ·rename_i b1 b2 _ _ _ c1 c2 _ _ _ d1 d2;exact yT E ho hx b1 c1 d1 g1 g2 b2 c2 d2 h1 h3 h4
theorem WD.sl {C:Chunk}{ad:Option Addr}{m c lo hi mx s:Nat}{xs:List Value}{ol oh om:Option Operand}(hκ:calm κ=true)(hx:ev e x=some (.slice ad m c))(hT:X.T.Ok X.P)(hs:VK X.T t=some s)(hl:Bd e ol 0 lo)(hh:Bd e oh m hi)(hm:Bd e om c mx)(aQ:okB ol oh om=true)(h:lo<=hi/\hi<=m/\hi<=mx/\mx<=c)(hR:Rd C s (.slice ad m c) m xs){n':Nat}{ys:List Value}(hn:hi - lo=n')(nZ:(xs.drop (lo*s)).take ((hi - lo)*s)=ys)
  (g:∀ad2,Rd C s (.slice ad2 n' (mx - lo)) n' ys->WO X f ops k Ms r' ((d,.slice ad2 n' (mx - lo)) :: e) Ls):WD X f ops k Ms κ (some d) (.slice t x ol oh om) r' e Ls:=by
 obtain ⟨el,g1,g2⟩:=qT hT hs
 obtain ⟨h1,h2,h3,h4⟩:=h
 obtain ⟨ad2,hv⟩:∃ad2,sliced ad lo hi mx s = .slice ad2 (hi - lo) (mx - lo):=⟨_,rfl⟩
 have kr:=hR.piece rfl h1 h2 h3
 rw [hv,nZ,hn] at kr
 rw [hn] at hv
 exact .rd hκ (fun o a w ho E _=>hv ▸ zk E ho hx g1 g2 hl hh hm aQ h1 h3 h4) (g ad2 kr)
theorem WD.slA {b off:Nat}{m c lo hi mx s j:Nat}{ol oh om:Option Operand}(hκ:calm κ=true)(hx:ev e x=some (.slice (some ⟨b,off,none⟩) m c))(hT:X.T.Ok X.P)(hs:VK X.T t=some s)(hl:Bd e ol 0 lo)(hh:Bd e oh m hi)(hm:Bd e om c mx)(aQ:okB ol oh om=true)(h:lo<=hi/\hi<=m/\hi<=mx/\mx<=c/\(lo<mx\/lo=0))(hj:off+lo*s=j){n':Nat}(hn:hi - lo=n')
  (g:WO X f ops k Ms r' ((d,.slice (some ⟨b,j,none⟩) n' (mx - lo)) :: e) Ls):WD X f ops k Ms κ (some d) (.slice t x ol oh om) r' e Ls:=by
 obtain ⟨el,g1,g2⟩:=qT hT hs
 obtain ⟨h1,h2,h3,h4,h5⟩:=h
 have hv:sliced (some ⟨b,off,none⟩) lo hi mx s = .slice (some ⟨b,j,none⟩) (hi - lo) (mx - lo):=by
  subst hj
  rcases h5 with h5 | rfl
  ·simp [sliced,show ¬mx=lo by omega,Addr.add_lit]
  ·by_cases h0:mx=0
   ·simp [sliced,h0]
   ·simp [sliced,h0,Addr.add_lit]
 rw [hn] at hv
 exact .rd hκ (fun o a w ho E _=>hv ▸ zk E ho hx g1 g2 hl hh hm aQ h1 h3 h4) g
theorem WD.acF {iG m s:Nat}{u zv:Value}{ys:List Value}(hκ:dD κ=true)(hx:ev e x=some (.slice none 0 0))(hy:ev e y=some u)(hT:X.T.Ok X.P)(hi:HO X.T t=some (el,s,iG,zv))(hs:FO X.T Ls s tx u m ys)(hb:m<=maxLen/\m*iG<=140737488355328)
  (hM:cJ κ Ms Ls) (g:∀ad c C',az C' el s (.slice ad m c) m ys->WO X f ops k Ms r' ((d,.slice ad m c) :: e) (C' :: Ls)):WD X f ops k Ms κ (some d) (.call ⟨.builtin .append,⟨[x,y]⟩,⟨[t,tx]⟩⟩) r' e Ls:=by
 obtain ⟨i,g1,g2,g3,g4,g5,g6⟩:=iH hT hi
 exact .ac hκ fun _ _ w ho hd hn E S=>xO E S.WV ho hd (hn d rfl) hx hy (az.nil el s) (kb _ _) (hs X.P w hT S.jX) g1 g2 g3 g4 g5 g6 oZ (by rw [Nat.zero_add];exact hb.2) fun _ _ v' C' E' S' AX=>by rw [Nat.zero_add,List.nil_append] at AX;obtain ⟨ad,c,rfl⟩:=AX.slice;exact KO.mk rfl (fun h C hC=>List.mem_cons_of_mem _ (hM h C hC)) (g ad c C' AX) E' S'
theorem Rd.XH {C:Chunk}{v:Value}{m:Nat}{bs:List UInt8}(h:Rd C 1 v m (ak bs)):bs.length=m:=by have:=h.1;rw [ai,Nat.mul_one] at this;exact this
theorem WD.str {C:Chunk}{t':TypeId}{u:Value}{bs:List UInt8}{m:Nat}(hκ:calm κ=true)(hx:ev e x=some u)(hT:X.T.Ok X.P)(ht:X.T.ko t=some (.slice el))(Jl:X.T.ko el=some (.int .u8))(hd:X.T.ko t'=some .string)(hR:Rd C 1 u m (ak bs))(hm:C∈zc κ Ms Ls)
  (g:WO X f ops k Ms r' ((d,str bs) :: e) Ls):WD X f ops k Ms κ (some d) (.convert t t' x) r' e Ls:=.rd hκ (fun _ _ _ ho E S=>Jk E ho hx (aU.aR hT ht) (aU.aR hT Jl) (aU.aR hT hd) (by rw [hR.XH];exact hR) (S.at hm)) g
theorem WD.mark {b m c:Nat}{T:TypeId}{l:List Value}(hκ:dD κ=true)(hx:ev e x=some (.slice (some ⟨b,0,none⟩) m c))(hT:X.T.Ok X.P)(ht:X.T.ko t=some (.slice el))(Jl:X.T.ko el=some (.int .u8))(hp:Ls.Perm ([(b,av l T)] :: Rs))
  (hM:cJ κ Ms ([(b,Sa l T)] :: Rs)) (g:WO X f ops k Ms r' ((d,.slice (some ⟨b,0,none⟩) m c) :: e) ([(b,Sa l T)] :: Rs)):WD X f ops k Ms κ (some d) (.convert t t x) r' e Ls :=
 .ac hκ fun _ _ _ ho hd hn E S=>Sb E S ho rfl hd (hn d rfl) hx (aU.aR hT ht) (aU.aR hT Jl) hp fun _ _ E' S'=>KO.mk rfl hM g E' S'
end
def kv (m:Me):Int×Value:=(m.key,m.val)
def Mp (r:Nat)(k:IntKind)(L:List (Int×Value))(C:Chunk):Prop:=∃Ms clock,Ms.map kv=L/\ug Ms clock/\C=[(r,.map (jb k Ms) clock)]
def xZ (r it:Nat)(k:IntKind)(L rest:List (Int×Value))(C D:Chunk):Prop:=∃Ms clock since seen last,Ms.map kv=L/\ug Ms clock/\C=[(r,.map (jb k Ms) clock)]/\D=[(it,.mapIter (some r) since seen last)]/\(∀m∈Ms,m.born<since)/\since<=last/\since<=clock/\rest=(Ms.filter fun m => !seen.contains m.born).map kv
def jP (L:List (Int×Value))(q:Int):Option Value:=(L.find? fun e=>e.1==q).map (·.2)
def gJ:List (Int×Value)->Int->Value->List (Int×Value)
 | [],q,v=>[(q,v)]
 | (p,u) :: L,q,v=>if p=q then (p,v) :: L else (p,u) :: gJ L q v
def ir (L:List (Int×Value))(q:Int):List (Int×Value):=L.filter fun e=>e.1 != q
theorem xZ.mp {r it:Nat}{k:IntKind}{L rest:List (Int×Value)}{C D:Chunk}(h:xZ r it k L rest C D):Mp r k L C:=by
 obtain ⟨Ms,clock,since,seen,last,h1,h2,h3, -⟩:=h;exact ⟨Ms,clock,h1,h2,h3⟩
theorem Mp.nodup {r:Nat}{k:IntKind}{L:List (Int×Value)}{C:Chunk}(h:Mp r k L C):(L.map (·.1)).Nodup:=by
 obtain ⟨Ms,clock,rfl,h2, -⟩:=h
 rw [List.map_map];exact h2.nk
theorem uz {Ms:List Me}{q:Int}{v:Value}(h:jP (Ms.map kv) q=some v):∃A m B,Ms=A++m :: B/\m.key=q/\m.val=v/\∀z∈A,z.key≠q:=by
 induction Ms with
 | nil=>simp [jP] at h
 | cons x l ih =>
  by_cases c:x.key=q
  ·refine ⟨[],x,l,rfl,c, ?_,by simp⟩
   simpa [jP,kv,c] using h
  ·have:jP (l.map kv) q=some v:=by simpa [jP,kv,c] using h
   obtain ⟨A,m,B,rfl,h2,h3,h4⟩:=ih this
   exact ⟨x :: A,m,B,rfl,h2,h3,fun z hz=>by
    rcases List.mem_cons.1 hz with rfl | hz
    ·exact c
    ·exact h4 z hz⟩
theorem uA {Ms:List Me}{q:Int}(h:jP (Ms.map kv) q=none):∀m∈Ms,m.key≠q:=by
 intro m hm e
 simp only [jP,Option.map_eq_none_iff,List.find?_eq_none] at h
 exact h (kv m) (List.mem_map_of_mem hm) (by simp [kv,e])
theorem Sm {A B:List Me}{m:Me}{v:Value}(hA:∀z∈A,z.key≠m.key):gJ ((A++m :: B).map kv) m.key v=(A++{ m with val:=v } :: B).map kv:=by
 induction A with
 | nil=>simp [gJ,kv]
 | cons x l ih =>
  have h1:=hA x (List.mem_cons_self ..)
  have h2:=ih fun z hz=>hA z (List.mem_cons_of_mem _ hz)
  simp only [List.cons_append,List.map_cons,kv,gJ] at h2 ⊢
  rw [if_neg h1,h2]
theorem M4 {Ms:List Me}{q:Int}{v:Value}(h:∀m∈Ms,m.key≠q):gJ (Ms.map kv) q v=Ms.map kv++[(q,v)]:=by
 induction Ms with
 | nil=>rfl
 | cons x l ih =>
  have h1:=h x (List.mem_cons_self ..)
  simp only [List.map_cons,kv,gJ,if_neg h1,List.cons_append]
  rw [ih fun z hz=>h z (List.mem_cons_of_mem _ hz)]
def Rw (T:aU)(t:TypeId):Option (TypeId×IntKind):=match T.ko t with
 | some (.map kt et)=>match T.ko kt with
  | some (.int k)=>some (et,k)
  | _=>none
 | _=>none
theorem n0 {P:Program}{T:aU}(hT:T.Ok P){t et:TypeId}{k:IntKind}(h:Rw T t=some (et,k)):∃kt,P.underlying t=some (.map kt et)/\P.underlying kt=some (.int k):=by
 unfold Rw at h
 split at h
 ·rename_i kt et' h1
  split at h
  ·rename_i k' h2;cases h;exact ⟨kt,aU.aR hT h1,aU.aR hT h2⟩
  ·cases h
 ·cases h
def lkR (b:Bool)(v:Value)(is:Bool):Value:=match b with
 | true=>.tuple #[v,.bool is]
 | false=>v
def zv (T:aU)(t:TypeId):Option Value:=match T.ty t with
 | some i=>i.zero
 | none=>none
section
variable {X:Cx}{f:Fx}{k:Kt}{e:Env}{Ls Rs:List Chunk}{ops:List Oper}{Ms:List Chunk}{r':aA}{κ d:Nat}{v:Value}{t et:TypeId}{x y z:Operand}{r:Nat}{kk:IntKind}{L:List (Int×Value)}{q:Int}{C D:Chunk}
theorem WD.mkMap (hκ:dD κ=true)(kk:IntKind)(hM:cJ κ Ms Ls)(g:∀r C,Mp r kk [] C->WO X f ops k Ms r' ((d,.map (some r)) :: e) (C :: Ls)):WD X f ops k Ms κ (some d) (.makeMap t none) r' e Ls :=
 .ac hκ fun _ _ _ ho hd hn E S=>FD E S ho hd (hn d rfl) fun _ _ b E' S'=>KO.mk rfl (fun h C hC=>List.mem_cons_of_mem _ (hM h C hC)) (g b _ ⟨[],0,rfl,MJ 0,rfl⟩) E' S'
theorem WD.lkY {b:Bool}(hκ:calm κ=true)(hx:ev e x=some (.map (some r)))(hy:ev e y=some (.int kk q))(hT:X.T.Ok X.P)(ht:Rw X.T t=some (et,kk))(hC:Mp r kk L C)(hm:C∈zc κ Ms Ls)(hv:jP L q=some v)
  (g:WO X f ops k Ms r' ((d,lkR b v true) :: e) Ls):WD X f ops k Ms κ (some d) (.lookup t x y b) r' e Ls:=by
 obtain ⟨kt,h1,h2⟩:=n0 hT ht
 obtain ⟨es,clock,rfl, -,rfl⟩:=hC
 obtain ⟨A,m,B,rfl,rfl,rfl,hA⟩:=uz hv
 have hf:=s9 (k:=kk) (m:=m) (A:=A) (B:=B) 0 hA
 rw [Nat.zero_add] at hf
 refine .rd hκ (fun _ _ _ ho E S => ?_) g
 cases b
 ·exact FC E ho hx hy h1 h2 (S.one hm) hf
 ·exact y4 E ho hx hy h1 h2 (S.one hm) hf
theorem WD.lkN {b:Bool}(hκ:calm κ=true)(hx:ev e x=some (.map (some r)))(hy:ev e y=some (.int kk q))(hT:X.T.Ok X.P)(ht:Rw X.T t=some (et,kk))(hz:zv X.T et=some v)(hC:Mp r kk L C)(hm:C∈zc κ Ms Ls)(hv:jP L q=none)
  (g:WO X f ops k Ms r' ((d,lkR b v false) :: e) Ls):WD X f ops k Ms κ (some d) (.lookup t x y b) r' e Ls:=by
 obtain ⟨kt,h1,h2⟩:=n0 hT ht
 obtain ⟨es,clock,rfl, -,rfl⟩:=hC
 have hf:=ph (k:=kk) 0 (uA hv)
 unfold zv at hz
 split at hz
 ·rename_i i hi
  have hi:=hT.ty _ _ hi
  refine .rd hκ (fun _ _ _ ho E S => ?_) g
  cases b
  ·exact uf E ho hx hy h1 h2 hi hz (S.one hm) hf
  ·exact xf E ho hx hy h1 h2 hi hz (S.one hm) hf
 ·cases hz
theorem WD.acG (hκ:dD κ=true)(hx:ev e x=some (.map (some r)))(hy:ev e y=some (.int kk q))(hz:ev e z=some v)(hT:X.T.Ok X.P)(ht:Rw X.T t=some (et,kk))(hC:Mp r kk L C)(hp:Ls.Perm (C :: Rs))
  (hM:cJ κ Ms Rs) (g:∀C',Mp r kk (gJ L q v) C'->WO X f ops k Ms r' e (C' :: Rs)):WD X f ops k Ms κ none (.mapUpdate t x y z) r' e Ls:=by
 obtain ⟨kt,h1,h2⟩:=n0 hT ht
 obtain ⟨es,clock,rfl,nD,rfl⟩:=hC
 refine .ac hκ fun _ _ _ ho hd _ E S => ?_
 cases hl:jP (es.map kv) q with
 | some u =>
  obtain ⟨A,m,B,rfl,rfl,rfl,hA⟩:=uz hl
  refine Jq E S ho hd hx hy hz h1 h2 hp hA fun _ _ E' S' => ?_
  exact KO.mk rfl (fun h C hC=>List.mem_cons_of_mem _ (hM h C hC)) (g _ ⟨_,_,(Sm hA).symm,ML nD,rfl⟩) E' S'
 | none =>
  have hn:=uA hl
  refine Jo E S (.inl ho) hd hx hy hz h1 h2 hp (ph (k:=kk) 0 hn) fun _ _ E' S' => ?_
  have hp':(jb kk es).push { key:=.int kk q,val:=v,born:=clock }=jb kk (es++[⟨q,v,clock⟩]):=Bz kk es ⟨q,v,clock⟩
  rw [hp'] at S'
  exact KO.mk rfl (fun h C hC=>List.mem_cons_of_mem _ (hM h C hC)) (g _ ⟨_,_,by rw [M4 hn];simp [kv],xS nD rfl hn,rfl⟩) E' S'
theorem M5 {A B:List Me}{m:Me}(hn:((A++m :: B).map (·.key)).Nodup):ir ((A++m :: B).map kv) m.key=(A++B).map kv:=by
 have h:∀l:List Me,(∀z∈l,z.key≠m.key)->(l.map kv).filter (fun e=>e.1 != m.key)=l.map kv:=fun l hl=>by
  rw [List.filter_eq_self]
  intro a ha
  obtain ⟨z,hz,rfl⟩:=List.mem_map.1 ha
  simpa [kv] using hl z hz
 rw [List.map_append,List.map_cons,List.nodup_append] at hn
 obtain ⟨h1,h2,h3⟩:=hn
 rw [List.nodup_cons] at h2
 simp only [ir,List.map_append,List.map_cons,List.filter_append]
 rw [List.filter_cons_of_neg (by simp [kv]),h A (fun z hz e=>h3 _ (List.mem_map_of_mem hz) _ (List.mem_cons_self ..) e),h B (fun z hz e=>h2.1 (by rw [<-e];exact List.mem_map_of_mem hz))]
theorem M6 {A B:List Me}{m:Me}{seen:Array Nat}(hn:((A++m :: B).map (·.key)).Nodup):ir (((A++m :: B).filter fun z => !seen.contains z.born).map kv) m.key=(((A++B).filter fun z => !seen.contains z.born)).map kv:=by
 have h1:ir (((A++m :: B).filter fun z => !seen.contains z.born).map kv) m.key=(((A++m :: B).filter fun z=>z.key != m.key).filter fun z => !seen.contains z.born).map kv:=by
  rw [ir,List.filter_map,List.filter_filter,List.filter_filter]
  congr 1
  apply List.filter_congr
  intro z _;simp [Function.comp,kv,Bool.and_comm]
 have h2:(A++m :: B).filter (fun z=>z.key != m.key)=A++B:=by
  have:=M5 hn
  have h3:∀l:List Me,(∀z∈l,z.key≠m.key)->l.filter (fun z=>z.key != m.key)=l:=fun l hl=>by
   rw [List.filter_eq_self];intro z hz;simpa using hl z hz
  rw [List.map_append,List.map_cons,List.nodup_append] at hn
  obtain ⟨n1,n2,n3⟩:=hn
  rw [List.nodup_cons] at n2
  rw [List.filter_append,List.filter_cons_of_neg (by simp),h3 A (fun z hz e=>n3 _ (List.mem_map_of_mem hz) _ (List.mem_cons_self ..) e),h3 B (fun z hz e=>n2.1 (by rw [<-e];exact List.mem_map_of_mem hz))]
 rw [h1,h2]
theorem WD.VT {it:Nat}{rest:List (Int×Value)}{tk:TypeId}(hκ:dD κ=true)(hx:ev e x=some (.map (some r)))(hy:ev e y=some (.int kk q))(hT:X.T.Ok X.P)(ht:Rw X.T t=some (et,kk))(hC:xZ r it kk L rest C D)(hq:(jP L q).isSome=true)(hp:Ls.Perm (C :: Rs))
  (hM:cJ κ Ms Rs) (g:∀C',xZ r it kk (ir L q) (ir rest q) C' D->WO X f ops k Ms r' e (C' :: Rs)):WD X f ops k Ms κ none (.call ⟨.builtin .delete,⟨[x,y]⟩,⟨[t,tk]⟩⟩) r' e Ls:=by
 obtain ⟨kt,h1,h2⟩:=n0 hT ht
 obtain ⟨es,clock,since,seen,last,rfl,nD,rfl,rfl,hb,hs,LK,rfl⟩:=hC
 obtain ⟨u,hu⟩:=Option.isSome_iff_exists.1 hq
 obtain ⟨A,m,B,rfl,rfl,rfl,hA⟩:=uz hu
 refine .ac hκ fun _ _ _ ho hd _ E S => ?_
 refine Jr E S ho hd hx hy h1 h2 hp hA fun _ _ E' S' => ?_
 refine KO.mk rfl (fun h C hC=>List.mem_cons_of_mem _ (hM h C hC)) (g _ ⟨A++B,clock,since,seen,last,(M5 nD.nk).symm,MK nD (by simp),rfl,rfl,fun z hz=>hb z ?_,hs,LK, ?_⟩) E' S'
 ·rcases List.mem_append.1 hz with hz | hz
  ·exact List.mem_append_left _ hz
  ·exact List.mem_append_right _ (List.mem_cons_of_mem _ hz)
 ·exact M6 nD.nk
theorem WD.acH {tk:TypeId}(hκ:dD κ=true)(hx:ev e x=some (.map (some r)))(hy:ev e y=some (.int kk q))(hT:X.T.Ok X.P)(ht:Rw X.T t=some (et,kk))(hC:Mp r kk L C)(hq:(jP L q).isSome=true)(hp:Ls.Perm (C :: Rs))
  (hM:cJ κ Ms Rs) (g:∀C',Mp r kk (ir L q) C'->WO X f ops k Ms r' e (C' :: Rs)):WD X f ops k Ms κ none (.call ⟨.builtin .delete,⟨[x,y]⟩,⟨[t,tk]⟩⟩) r' e Ls:=by
 obtain ⟨es,clock,rfl,nD,rfl⟩:=hC
 exact .VT (it:=0) (D:=[(0,.mapIter (some r) clock #[] clock)]) hκ hx hy hT ht ⟨es,clock,clock,#[],clock,rfl,nD,rfl,rfl,nD.born,Nat.le_refl _,Nat.le_refl _,rfl⟩ hq hp hM fun C' h=>g C' h.mp
theorem WD.XI (hκ:dD κ=true)(hx:ev e x=some (.map (some r)))(hT:X.T.Ok X.P)(ht:Rw X.T t=some (et,kk))(hC:Mp r kk L C)(hp:Ls.Perm (C :: Rs))
  (hM:cJ κ Ms Ls) (g:∀it D,xZ r it kk L L C D->WO X f ops k Ms r' ((d,ptr it) :: e) (D :: Ls)):WD X f ops k Ms κ (some d) (.range t x) r' e Ls:=by
 obtain ⟨kt,h1,h2⟩:=n0 hT ht
 obtain ⟨es,clock,rfl,nD,rfl⟩:=hC
 refine .ac hκ fun _ _ _ ho hd hn E S=>BA E S ho hd (hn d rfl) hx h1 hp fun _ _ b E' S' => ?_
 exact KO.mk rfl (fun h C hC=>List.mem_cons_of_mem _ (hM h C hC)) (g b _ ⟨es,clock,clock,#[],clock,rfl,nD,rfl,rfl,nD.born,Nat.le_refl _,Nat.le_refl _,by rw [List.filter_eq_self.2 (fun _ _=>by simp)]⟩) E' S'
end
def RM (P:Program)(w:World)(As:List Chunk)(cp:Value->List Chunk->Prop):Ending->World->Prop:=fun en w'=>∃v,en = .returned v/\∃Bs,cp v Bs/\l5 w w' As Bs
abbrev Sn (P:Program)(w:World)(As:List Chunk)(fn:Func)(cp:Value->List Chunk->Prop):Kt:=.raw (bodyPostM Fence.wide 0 P fn (RM P w As cp))
theorem LJ.mkM {P:Program}{T:aU}{g:FuncId}{args:List Value}{As:List Chunk}{cp:Value->List Chunk->Prop}{fn:Func}{c:Code}{n:Nat}{e:Env}(hf:P.funcs[g]? = some fn)(hb:fn.body=some c)(hn:fn.ntmps=n)(hs:Nat.ble args.length n=true)(he:num 0 args=e)
  (h:∀w0,WS ⟨P,T,w0,As,none,[]⟩ ⟨fn,n,qV cp⟩ c (Sn P w0 As fn cp) e As):LJ P g args As cp:=fun w H=>by
 refine FI n _ e hf hb hn (by simpa using Nat.le_of_ble_eq_true hs) (fun k v hk => ?_) fun a E => ?_
 ·rw [<-he] at hk
  have:=ta args 0 k v hk
  simpa using this.2
 ·exact (wpIn_wide (n:=0)).1 ((h w).ap a w E (.begin H))
section
variable {P:Program}{T:aU}{w0:World}{As:List Chunk}{ro:Option Nat}{f:Fx}{k:Kt}{e:Env}{Ls Bs Rs:List Chunk}{cp:Value->List Chunk->Prop}{vs:List Value}{v:Value}{r l:Nat}
theorem WE.aaC {X:Cx}{fn:Func}(hX:X.ds=[⟨.collected r,#[]⟩])(zl:f.fn=fn)(h:FJ e f.fn.results.toList=some vs)(hv:one vs=v)(hp:Ls.Perm ([(r,.deferred (some []))] :: Rs))(g:qV cp v Rs):WE X f .ret (Sn X.P X.w0 X.As fn cp) e Ls:=⟨fun a w E S=>by
 subst zl
 obtain ⟨Bs,Rs',hs,hP⟩:=g.out
 have E':=E
 rw [hX] at E'
 exact BF E' S hp (fun w' S'=>⟨v,hv ▸ la (za E h),v,rfl,Bs,hP,(S'.xY hs).tr⟩) _ (.inl rfl)⟩
theorem WE.XJ {X:Cx}{fn:Func}(hX:X.ds=[⟨.collected r,#[]⟩])(hT:X.T.Ok X.P)(zl:f.fn=fn)(hp:Ls.Perm ([(r,.deferred (some []))] :: Rs))(h:RR X.T e Rs f.fn.results.toList vs)(hv:one vs=v)(g:qV cp v Rs):WE X f .ret (Sn X.P X.w0 X.As fn cp) e Ls:=⟨fun a w E S=>by
 subst zl
 obtain ⟨Bs,Rs',hs,hP⟩:=g.out
 have E':=E
 rw [hX] at E'
 exact BF E' S hp (fun w' S'=>⟨v,hv ▸ la (h.ok hT E S'.jX),v,rfl,Bs,hP,(S'.xY hs).tr⟩) _ (.inl rfl)⟩
def Kt.plain:Kt->Bool
 | .top=>false
 | .raw _=>true
 | .seq _ k=>k.plain
 | .fN _ k=>k.plain
 | .MV _ _=>false
theorem Kt.Na {P:Program}{T:aU}{w0:World}{As:List Chunk}{ro:Option Nat}{d1 d2:List Deferred}{f:Fx}:∀ {k:Kt},k.plain=true->k.Q ⟨P,T,w0,As,ro,d1⟩ f=k.Q ⟨P,T,w0,As,ro,d2⟩ f
 | .raw _,_=>rfl
 | .seq c k,h=>by simp only [Kt.Q];rw [Kt.Na (k:=k) h]
 | .fN i k,h=>by simp only [Kt.Q];rw [Kt.Na (k:=k) h]
def RE (P:Program)(w0:World)(As Cs:List Chunk)(l r:Nat)(rc:Loop)(J:List Chunk->Prop)(n7:List Chunk->Prop):Ending->World->Prop:=fun en w' =>
 (en = .returned (.bool true)/\∃bg,St w0 As w' ([(l,.loop rc)] :: (Cs++([(r,.deferred (some []))] :: bg)))/\J bg)\/(en = .returned (.bool false)/\∃bg,St w0 As w' ([(l,.loop (xV rc))] :: (Cs++([(r,.deferred (some []))] :: bg)))/\n7 bg)
def Kr (P:Program)(w0:World)(As Cs:List Chunk)(l r:Nat)(rc:Loop)(J n7:List Chunk->Prop):Kt:=.raw (FH l w0 As rc (RE P w0 As Cs l r rc J n7))
theorem WE.next {X:Cx}{Cs:List Chunk}{rc:Loop}{J n7:List Chunk->Prop}{L':List Chunk}(hs:gH Ls ([(l,.loop (uq rc))] :: (Cs++([(r,.deferred (some []))] :: L'))) Rs)(hJ:J L'):WE X f .normal (Kr P X.w0 X.As Cs l r rc J n7) e Ls :=
 ⟨fun _ _ _ S=>⟨_,S.xY hs,fun _ S'=>.inl ⟨rfl,L',S',hJ⟩⟩⟩
theorem WE.stop {X:Cx}{Cs:List Chunk}{rc:Loop}{J n7:List Chunk->Prop}{L':List Chunk}(hs:gH Ls ([(l,.loop (uq rc))] :: (Cs++([(r,.deferred (some []))] :: L'))) Rs)(hJ:n7 L'):WE X f .ret (Kr P X.w0 X.As Cs l r rc J n7) e Ls :=
 ⟨fun _ _ _ S=>⟨_,S.xY hs,fun _ S'=>.inr ⟨rfl,L',S',hJ⟩⟩⟩
theorem JB {a:Act}{n:Nat}{ds:List Deferred}(E:Fr a n e ds){p0:Nat}(h0:p0<n)(v0:Value) :
  Fr ⟨((#[p0]:Array Tmp).zip #[v0]).foldl (fun tmps x=>tmps.setIfInBounds x.1 x.2) a.tmps,[]⟩ n ((p0,v0) :: e):=by
 have h:=E.put h0 v0
 exact ⟨by simpa [Act.put] using h.size,rfl,fun k v hk=>by simpa [Act.put] using h.get k v hk⟩
inductive Rx (n:Nat):List Nat->List Value->Env->Prop
 | one {p0:Nat} {v0:Value} (h0:p0<n):Rx n [p0] [v0] [(p0,v0)]
 | two {p0 p1:Nat} {v0 v1:Value} (h0:p0<n) (h1:p1<n):Rx n [p0,p1] [v0,v1] [(p1,v1),(p0,v0)]
theorem Rx.fr {ps:List Nat}{V:Env}{n:Nat}(h:Rx n ps vs V){a:Act}{ds:List Deferred}(E:Fr a n e ds):Fr ⟨((ps.toArray:Array Tmp).zip vs.toArray).foldl (fun tmps x=>tmps.setIfInBounds x.1 x.2) a.tmps,[]⟩ n (V++e):=by
 cases h with
 | one h0=>exact JB E h0 _
 | two h0 h1=>exact Jt E h0 h1 _ _
theorem Rx.len {ps:List Nat}{V:Env}{n:Nat}(h:Rx n ps vs V):ps.length=vs.length:=by cases h <;> rfl
theorem Nb {a:Act}{n:Nat}{w:World}{ds:List Deferred}{ps:List Nat}{V:Env}{assign body:Code}{rc:Loop}{R:Ending->World->Prop}(hL:MU rc a ps.toArray assign body)(S:St w0 As w ([(l,.loop rc)] :: Ls))(E:Fr a n e ds)(hp:Rx n ps vs V)
  (h:∀a,Fr a n (V++e)->assign.wpIn (RF (some l)) 0 P (Exit.then (fun a1 w1=>∃MS,St w0 As w1 ([(l,.loop rc)] :: MS)/\∀w2,St w0 As w2 ([(l,.loop (uq rc))] :: MS) ->
   body.wpIn (RF (some l)) 0 P (FH l w0 As rc R) a1 w2) (fun _ _ _=>False)) a w):RoundIn Fence.wide 0 P l rc.fn ((rc.params.zip vs.toArray).foldl (fun tmps x=>tmps.setIfInBounds x.1 x.2) rc.tmps) rc.assign rc.body w R:=by
 have aaD:({ rc with state:=.ready,pending:=none }:Loop)=rc:=by
  have h1:=hL.st
  have h2:=hL.pn
  cases rc
  simp only at h1 h2
  subst h1 h2
  rfl
 rw [hL.tm,hL.pr,hL.as_,hL.bd]
 refine MR S hL.st (hp.fr E) fun a2 E2=>wpIn_mono (h a2 E2) ?_
 intro x a1 w1 hx
 cases x with
 | normal =>
  obtain ⟨MS,S1,k⟩:=hx
  refine ⟨MS,S1,fun w2 S2=>wpIn_mono (k w2 S2) ?_⟩
  intro y a3 w3 hy
  cases y with
  | normal =>
   obtain ⟨bg,S3,k3⟩:=hy
   exact ⟨bg,S3,fun w' S4=>k3 w' (by rw [aaD] at S4;exact S4)⟩
  | ret=>exact hy
  | exit i=>exact hy.elim
  | goto l=>exact hy.elim
  | panic c=>exact hy.elim
  | outgrown=>exact hy.elim
 | exit i=>exact hx.elim
 | goto l=>exact hx.elim
 | ret=>exact hx.elim
 | panic c=>exact hx.elim
 | outgrown=>exact hx.elim
def Ka (P:Program)(w0:World)(As Cs:List Chunk)(l r:Nat)(rc:Loop)(J n7:List Chunk->Prop)(body:Code):Kt :=
 .raw (Exit.then (fun a1 w1=>∃MS,St w0 As w1 ([(l,.loop rc)] :: MS)/\∀w2,St w0 As w2 ([(l,.loop (uq rc))] :: MS)->body.wpIn (RF (some l)) 0 P (FH l w0 As rc (RE P w0 As Cs l r rc J n7)) a1 w2) (fun _ _ _=>False))
theorem WE.asg {Cs:List Chunk}{rc:Loop}{J n7:List Chunk->Prop}{body:Code}(h:WS ⟨P,T,w0,As,some l,[]⟩ f body (Kr P w0 As Cs l r rc J n7) e ([(l,.loop (uq rc))] :: Ls)):WE ⟨P,T,w0,As,some l,[]⟩ f .normal (Ka P w0 As Cs l r rc J n7 body) e ([(l,.loop rc)] :: Ls) :=
 ⟨fun a _ E S=>⟨Ls,S,fun w2 S2=>h.ap a w2 E S2⟩⟩
end
def JC (D:Chunk)(i:Nat):Prop:=∃l T,(i,av l T)∈D
def PB (D:Chunk)(i j:Nat):Prop:=i=j\/(JC D i/\JC D j)
theorem JC.bk {D:Chunk}{i:Nat}{w:World}(h:JC D i)(hw:∀x∈D,w.heap[x.1]? = some x.2):Bk w i:=by
 obtain ⟨l,T,hm⟩:=h;exact ⟨l,T,hw _ hm⟩
def ptS (T:aU)(t:TypeId):Bool:=match T.ko t with
 | some (.pointer te)=>match T.ty te with
  | some z => !Nat.beq z.size 0
  | none=>false
 | _=>false
theorem Nc {P:Program}{T:aU}(hT:T.Ok P){t:TypeId}(h:ptS T t=true):∃te z,P.underlying t=some (.pointer te)/\P.info? te=some z/\z.size≠0:=by
 unfold ptS at h
 split at h
 ·rename_i te h1
  split at h
  ·rename_i z h2
   refine ⟨te,z,aU.aR hT h1,hT.ty _ _ h2,fun h0 => ?_⟩
   rw [h0] at h;cases h
  ·cases h
 ·cases h
def arZ (T:aU)(t:TypeId):Option Nat:=match T.ko t with
 | some (.array m el)=>match T.sz el with
  | some 1=>Xr m some
  | _=>none
 | _=>none
theorem XK {P:Program}{T:aU}(hT:T.Ok P){t:TypeId}{m:Nat}(h:arZ T t=some m):∃el,P.underlying t=some (.array m el)/\(P.info? el).map (·.size)=some 1:=by
 unfold arZ at h
 split at h
 ·rename_i m' el h1
  split at h
  ·rename_i h2;rw [HE] at h;cases h;exact ⟨el,aU.aR hT h1,aU.r5 hT h2⟩
  ·cases h
 ·cases h
section
variable {X:Cx}{f:Fx}{k:Kt}{e:Env}{Ls Rs:List Chunk}{ops:List Oper}{Ms:List Chunk}{r r':aA}{κ d:Nat}{v:Value}{t t' el:TypeId}{x y z:Operand}{D:Chunk}{i j:Nat}
theorem WD.eqP (hκ:calm κ=true)(hx:ev e x=some (ptr i))(hy:ev e y=some (ptr j))(hT:X.T.Ok X.P)(ht:ptS X.T t=true)(hD:PB D i j)(hm:D∈zc κ Ms Ls)
  (g:WO X f ops k Ms r' ((d,.bool (decide (i=j))) :: e) Ls):WD X f ops k Ms κ (some d) (.binOp .eql t x y t') r' e Ls:=by
 obtain ⟨te,z,h1,h2,h3⟩:=Nc hT ht
 exact .rd hκ (fun _ _ _ ho E S=>Bx E ho hx hy h1 h2 h3 (hD.imp_right fun h=>⟨h.1.bk (S.at hm),h.2.bk (S.at hm)⟩)) g
theorem WD.neP (hκ:calm κ=true)(hx:ev e x=some (ptr i))(hy:ev e y=some (ptr j))(hT:X.T.Ok X.P)(ht:ptS X.T t=true)(hD:PB D i j)(hm:D∈zc κ Ms Ls)
  (g:WO X f ops k Ms r' ((d,.bool !(decide (i=j))) :: e) Ls):WD X f ops k Ms κ (some d) (.binOp .neq t x y t') r' e Ls:=by
 obtain ⟨te,z,h1,h2,h3⟩:=Nc hT ht
 exact .rd hκ (fun _ _ _ ho E S=>By E ho hx hy h1 h2 h3 (hD.imp_right fun h=>⟨h.1.bk (S.at hm),h.2.bk (S.at hm)⟩)) g
theorem WD.slP {b j m:Nat}(hκ:calm κ=true)(hx:ev e x=some (.pointer (some ⟨b,j,none⟩)))(hT:X.T.Ok X.P)(ht:arZ X.T t=some m)(hm:Nat.blt 0 m=true)
  (g:WO X f ops k Ms r' ((d,.slice (some ⟨b,j,none⟩) m m) :: e) Ls):WD X f ops k Ms κ (some d) (.slice t x none none none) r' e Ls:=by
 obtain ⟨el,h1,h2⟩:=XK hT ht
 exact .rd hκ (fun _ _ _ ho E _=>yX E ho hx h1 h2 (Nat.le_of_ble_eq_true hm)) g
theorem zm {P:Program}{a:Act}{w:World}{o:Oper}{n:Nat}{ds:List Deferred}{fn:Fn}{bs cs:List Operand}{us vs:List Value}(E:Fr a n e ds)(ho:o.op = .makeFunc fn bs.toArray cs.toArray)(hb:HB e bs=some us)(hc:HB e cs=some vs)(hf:∃k,fn = .func k):ab P o a w (.func fn us.toArray vs.toArray) w:=by
 obtain ⟨k,rfl⟩:=hf
 simp [ab,execOp,ho,E.rV hb,E.rV hc,Instr.makeFunc]
theorem WD.mkB {g0:FuncId}{bs cs:List Operand}{us vs:List Value}(hκ:calm κ=true)(hb:HB e bs=some us)(hc:HB e cs=some vs)
  (g:WO X f ops k Ms r' ((d,.func (.func g0) us.toArray vs.toArray) :: e) Ls):WD X f ops k Ms κ (some d) (.makeFunc (.func g0) ⟨bs⟩ ⟨cs⟩) r' e Ls :=
 .rd hκ (fun _ _ _ ho E _=>zm E ho hb hc ⟨_,rfl⟩) g
theorem WD.aaE {b q:Nat}{vs l:List Value}{T:TypeId}(hκ:calm κ=true)(hx:ev e x=some (.pointer (some ⟨b,j,none⟩)))(hT:X.T.Ok X.P)(ht:X.T.agg t=some q){fr:Nat×Nat}(hm:[(b,.cells l.toArray T fr)]∈zc κ Ms Ls)(hv:Sub j vs l)(hl:vs.length=q)
  (g:WO X f ops k Ms r' ((d,.agg vs.toArray) :: e) Ls):WD X f ops k Ms κ (some d) (.load t x) r' e Ls:=.VJ hκ hx hT ht hm hl hv g
theorem WD.sl0 {s:Nat}{ol oh om:Option Operand}(hκ:calm κ=true)(hx:ev e x=some (.slice none 0 0))(hT:X.T.Ok X.P)(hs:VK X.T t=some s)(hl:Bd e ol 0 0)(hh:Bd e oh 0 0)(hm:Bd e om 0 0)(aQ:okB ol oh om=true)
  (g:WO X f ops k Ms r' ((d,.slice none 0 0) :: e) Ls):WD X f ops k Ms κ (some d) (.slice t x ol oh om) r' e Ls:=by
 obtain ⟨el,g1,g2⟩:=qT hT hs
 exact .rd hκ (fun o a w ho E _=>by have:=zk (P:=X.P) (w:=w) E ho hx g1 g2 hl hh hm aQ (Nat.le_refl _) (Nat.le_refl _) (Nat.le_refl _);simpa [sliced] using this) g
theorem WD.acI {iG s:Nat}{zv:Value}{vs:List Value}(hκ:dD κ=true)(hx:ev e x=some (.agg vs.toArray))(hT:X.T.Ok X.P)(hi:HO X.T t=some (el,s,iG,zv))(hs:(Nat.ble s 16777216&&Nat.blt 0 s)=true)(hv:vs.length=s)
  (hM:cJ κ Ms Ls) (g:∀b,WO X f ops k Ms r' ((d,.slice (some ⟨b,0,none⟩) 1 1) :: e) ([(b,av vs el)] :: Ls)):WD X f ops k Ms κ (some d) (.buildSlice t 1 ⟨[(0,x)]⟩) r' e Ls:=by
 obtain ⟨i,g1,g2,g3,g4,g5,g6⟩:=iH hT hi
 subst g4
 rw [Bool.and_eq_true] at hs
 have hq:pc e [(0,x)]=some [(0,.agg vs.toArray)]:=by simp [pc,hx]
 have xg:=Nat.le_of_ble_eq_true hs.1
 have lU:=Nat.le_of_ble_eq_true hs.2
 exact .ac hκ fun _ _ w ho hd hn E S=>xR E S ho hd (hn d rfl) hq g1 g2 g3 g5 ⟨by omega,by omega⟩ (MH (by simpa using g5) hv) fun _ _ b E' S'=>KO.mk rfl (fun h C hC=>List.mem_cons_of_mem _ (hM h C hC)) (g b) E' S'
theorem WD.acJ {iG s:Nat}{zv:Value}(hκ:dD κ=true)(hT:X.T.Ok X.P)(hi:HO X.T t=some (el,s,iG,zv))
  (hM:cJ κ Ms Ls) (g:∀b,WO X f ops k Ms r' ((d,.slice (some ⟨b,0,none⟩) 0 0) :: e) ([(b,av [] el)] :: Ls)):WD X f ops k Ms κ (some d) (.buildSlice t 0 ⟨[]⟩) r' e Ls:=by
 obtain ⟨i,g1,g2,g3,g4,g5,g6⟩:=iH hT hi
 exact .ac hκ fun _ _ w ho hd hn E S=>Fz E S ho hd (hn d rfl) g1 g2 fun _ _ b E' S'=>KO.mk rfl (fun h C hC=>List.mem_cons_of_mem _ (hM h C hC)) (g b) E' S'
theorem WD.acK {iG m s q c g0:Nat}{u zv:Value}{l l' ys:List Value}{tx:TypeId}(hκ:dD κ=true)(hx:ev e x=some (.slice (some ⟨g0,0,none⟩) q c))(hy:ev e y=some u)(hT:X.T.Ok X.P)(hi:HO X.T t=some (el,s,iG,zv))(hp:Ls.Perm ([(g0,av l el)] :: Rs))(hs:FO X.T Ls s tx u m ys)(eN:q+m<=c)(hlen:(q+m)*s<=l.length)(hl:l.take (q*s)++ys++l.drop ((q+m)*s)=l')
  (hM:cJ κ Ms ([(g0,av l' el)] :: Rs)) (g:WO X f ops k Ms r' ((d,.slice (some ⟨g0,0,none⟩) (q+m) c) :: e) ([(g0,av l' el)] :: Rs)):WD X f ops k Ms κ (some d) (.call ⟨.builtin .append,⟨[x,y]⟩,⟨[t,tx]⟩⟩) r' e Ls:=by
 obtain ⟨i,g1,g2,g3,g4,g5,g6⟩:=iH hT hi
 exact .ac hκ fun _ _ w ho hd hn E S=>yY E S ho hd (hn d rfl) hx hy hp eN hlen (hs X.P w hT S.jX) g1 g2 g4 fun _ _ E' S'=>by rw [hl] at S';exact KO.mk rfl hM g E' S'
theorem BI {P:Program}{a:Act}{w:World}{o:Oper}{n:Nat}{ds:List Deferred}{t kt et:TypeId}{r clock:Nat}{es:Array MapEntry}(E:Fr a n e ds)(ho:o.op = .call ⟨.builtin .len,⟨[x]⟩,⟨[t]⟩⟩)(hx:ev e x=some (.map (some r)))(ht:P.underlying t=some (.map kt et))(hb:w.heap[r]? = some (.map es clock)):ab P o a w (.int .i64 es.size) w:=by
 simp [ab,execOp,ho,resolve,invoke,builtin,E.eval hx,Builtin.len_,run_underlying ht,Go.MapKept.run_getObj_map hb,goInt]
theorem WD.acL {r:Nat}{kk:IntKind}{L:List (Int×Value)}{C:Chunk}{et:TypeId}(hκ:calm κ=true)(hx:ev e x=some (.map (some r)))(hT:X.T.Ok X.P)(ht:Rw X.T t=some (et,kk))(hC:Mp r kk L C)(hm:C∈zc κ Ms Ls)
  (g:WO X f ops k Ms r' ((d,.int .i64 L.length) :: e) Ls):WD X f ops k Ms κ (some d) (.call ⟨.builtin .len,⟨[x]⟩,⟨[t]⟩⟩) r' e Ls:=by
 obtain ⟨kt,h1,h2⟩:=n0 hT ht
 obtain ⟨es,clock,rfl, -,rfl⟩:=hC
 have hl:(jb kk es).size=(es.map kv).length:=by simp
 exact .rd hκ (fun _ _ _ ho E S=>by have:=BI (P:=X.P) E ho hx h1 (S.one hm);rw [hl] at this;exact this) g
theorem WO.fork {q:aA}(h1:WO X f ops k Ms (.cons (i,1) r) e Ls)(h2:WO X f ops k Ms (.cons (j,1) q) e Ls):WO X f ops k Ms (.fork i r j q) e Ls:=⟨fun a w E S=>⟨h1.ap a w E S,h2.ap a w E S⟩⟩
theorem St.Je {w0 w:World}{As Ls:List Chunk}(S:St w0 As w Ls):(Ls.flatten.map (·.1)).Nodup:=S.hp.1
theorem JD {A B:Chunk}(h:(Ls.flatten.map (·.1)).Nodup)(hp:Ls.Perm (A :: B :: Rs)):∀x∈A.map (·.1),x∉B.map (·.1):=fun x hx hb=>by
 have h1:=((hp.flatten.map (·.1)).nodup_iff).1 h
 simp only [List.flatten_cons,List.map_append,List.nodup_append,List.mem_append] at h1
 exact h1.2.2 x hx x (.inl hb) rfl
theorem WO.nodup (g:(Ls.flatten.map (·.1)).Nodup->WO X f ops k Ms r e Ls):WO X f ops k Ms r e Ls:=⟨fun a w E S=>(g S.Je).ap a w E S⟩
end
end Go.Sl
namespace Go.Proofs.YtcfioaeamfappaaGreatDoor
open Go.Sl
noncomputable def tys:Bt TypeInfo:=(.nd (.nd (.nd (.nd (.nd (.nd (.nd (.nd (.nd .lf 0 Tryz.t0 .lf) 1 Tryz.t1 (.nd .lf 2 Tryz.t2 .lf)) 3 Tryz.t3 (.nd (.nd .lf 4 Tryz.t4 .lf) 5 Tryz.t5 .lf)) 6 Tryz.t6 (.nd (.nd (.nd .lf 7 Tryz.t7 .lf) 8 Tryz.t8 (.nd .lf 9 Tryz.t9 .lf)) 10 Tryz.t10 (.nd (.nd .lf 11 Tryz.t11 .lf) 12 Tryz.t12 .lf))) 13 Tryz.t13 (.nd (.nd (.nd (.nd .lf 14 Tryz.t14 .lf) 15 Tryz.t15 (.nd .lf 16 Tryz.t16 .lf)) 17 Tryz.t17 (.nd (.nd .lf 18 Tryz.t18 .lf) 19 Tryz.t19 .lf)) 20 Tryz.t20 (.nd (.nd (.nd .lf 21 Tryz.t21 .lf) 22 Tryz.t22 .lf) 23 Tryz.t23 (.nd (.nd .lf 24 Tryz.t24 .lf) 25 Tryz.t25 .lf)))) 26 Tryz.t26 (.nd (.nd (.nd (.nd (.nd .lf 27 Tryz.t27 .lf) 28 Tryz.t28 (.nd .lf 29 Tryz.t29 .lf)) 30 Tryz.t30 (.nd (.nd .lf 31 Tryz.t31 .lf) 32 Tryz.t32 .lf)) 33 Tryz.t33 (.nd (.nd (.nd .lf 34 Tryz.t34 .lf) 35 Tryz.t35 (.nd .lf 36 Tryz.t36 .lf)) 37 Tryz.t37 (.nd (.nd .lf 38 Tryz.t38 .lf) 39 Tryz.t39 .lf))) 40 Tryz.t40 (.nd (.nd (.nd (.nd .lf 41 Tryz.t41 .lf) 42 Tryz.t42 (.nd .lf 43 Tryz.t43 .lf)) 44 Tryz.t44 (.nd (.nd .lf 45 Tryz.t45 .lf) 46 Tryz.t46 .lf)) 47 Tryz.t47 (.nd (.nd (.nd .lf 48 Tryz.t48 .lf) 49 Tryz.t49 .lf) 50 Tryz.t50 (.nd (.nd .lf 51 Tryz.t51 .lf) 52 Tryz.t52 .lf))))) 53 Tryz.t53 (.nd (.nd (.nd (.nd (.nd (.nd .lf 54 Tryz.t54 .lf) 55 Tryz.t55 (.nd .lf 56 Tryz.t56 .lf)) 57 Tryz.t57 (.nd (.nd .lf 58 Tryz.t58 .lf) 59 Tryz.t59 .lf)) 60 Tryz.t60 (.nd (.nd (.nd .lf 61 Tryz.t61 .lf) 62 Tryz.t62 (.nd .lf 63 Tryz.t63 .lf)) 64 Tryz.t64 (.nd (.nd .lf 65 Tryz.t65 .lf) 66 Tryz.t66 .lf))) 67 Tryz.t67 (.nd (.nd (.nd (.nd .lf 68 Tryz.t68 .lf) 69 Tryz.t69 (.nd .lf 70 Tryz.t70 .lf)) 71 Tryz.t71 (.nd (.nd .lf 72 Tryz.t72 .lf) 73 Tryz.t73 .lf)) 74 Tryz.t74 (.nd (.nd (.nd .lf 75 Tryz.t75 .lf) 76 Tryz.t76 .lf) 77 Tryz.t77 (.nd (.nd .lf 78 Tryz.t78 .lf) 79 Tryz.t79 .lf)))) 80 Tryz.t80 (.nd (.nd (.nd (.nd (.nd .lf 81 Tryz.t81 .lf) 82 Tryz.t82 (.nd .lf 83 Tryz.t83 .lf)) 84 Tryz.t84 (.nd (.nd .lf 85 Tryz.t85 .lf) 86 Tryz.t86 .lf)) 87 Tryz.t87 (.nd (.nd (.nd .lf 88 Tryz.t88 .lf) 89 Tryz.t89 (.nd .lf 90 Tryz.t90 .lf)) 91 Tryz.t91 (.nd (.nd .lf 92 Tryz.t92 .lf) 93 Tryz.t93 .lf))) 94 Tryz.t94 (.nd (.nd (.nd (.nd .lf 95 Tryz.t95 .lf) 96 Tryz.t96 (.nd .lf 97 Tryz.t97 .lf)) 98 Tryz.t98 (.nd (.nd .lf 99 Tryz.t99 .lf) 100 Tryz.t100 .lf)) 101 Tryz.t101 (.nd (.nd (.nd .lf 102 Tryz.t102 .lf) 103 Tryz.t103 .lf) 104 Tryz.t104 (.nd (.nd .lf 105 Tryz.t105 .lf) 106 Tryz.t106 .lf)))))) 107 Tryz.t107 (.nd (.nd (.nd (.nd (.nd (.nd (.nd .lf 108 Tryz.t108 .lf) 109 Tryz.t109 (.nd .lf 110 Tryz.t110 .lf)) 111 Tryz.t111 (.nd (.nd .lf 112 Tryz.t112 .lf) 113 Tryz.t113 .lf)) 114 Tryz.t114 (.nd (.nd (.nd .lf 115 Tryz.t115 .lf) 116 Tryz.t116 (.nd .lf 117 Tryz.t117 .lf)) 118 Tryz.t118 (.nd (.nd .lf 119 Tryz.t119 .lf) 120 Tryz.t120 .lf))) 121 Tryz.t121 (.nd (.nd (.nd (.nd .lf 122 Tryz.t122 .lf) 123 Tryz.t123 (.nd .lf 124 Tryz.t124 .lf)) 125 Tryz.t125 (.nd (.nd .lf 126 Tryz.t126 .lf) 127 Tryz.t127 .lf)) 128 Tryz.t128 (.nd (.nd (.nd .lf 129 Tryz.t129 .lf) 130 Tryz.t130 .lf) 131 Tryz.t131 (.nd (.nd .lf 132 Tryz.t132 .lf) 133 Tryz.t133 .lf)))) 134 Tryz.t134 (.nd (.nd (.nd (.nd (.nd .lf 135 Tryz.t135 .lf) 136 Tryz.t136 (.nd .lf 137 Tryz.t137 .lf)) 138 Tryz.t138 (.nd (.nd .lf 139 Tryz.t139 .lf) 140 Tryz.t140 .lf)) 141 Tryz.t141 (.nd (.nd (.nd .lf 142 Tryz.t142 .lf) 143 Tryz.t143 (.nd .lf 144 Tryz.t144 .lf)) 145 Tryz.t145 (.nd (.nd .lf 146 Tryz.t146 .lf) 147 Tryz.t147 .lf))) 148 Tryz.t148 (.nd (.nd (.nd (.nd .lf 149 Tryz.t149 .lf) 150 Tryz.t150 (.nd .lf 151 Tryz.t151 .lf)) 152 Tryz.t152 (.nd (.nd .lf 153 Tryz.t153 .lf) 154 Tryz.t154 .lf)) 155 Tryz.t155 (.nd (.nd (.nd .lf 156 Tryz.t156 .lf) 157 Tryz.t157 .lf) 158 Tryz.t158 (.nd (.nd .lf 159 Tryz.t159 .lf) 160 Tryz.t160 .lf))))) 161 Tryz.t161 (.nd (.nd (.nd (.nd (.nd (.nd .lf 162 Tryz.t162 .lf) 163 Tryz.t163 (.nd .lf 164 Tryz.t164 .lf)) 165 Tryz.t165 (.nd (.nd .lf 166 Tryz.t166 .lf) 167 Tryz.t167 .lf)) 168 Tryz.t168 (.nd (.nd (.nd .lf 169 Tryz.t169 .lf) 170 Tryz.t170 (.nd .lf 171 Tryz.t171 .lf)) 172 Tryz.t172 (.nd (.nd .lf 173 Tryz.t173 .lf) 174 Tryz.t174 .lf))) 175 Tryz.t175 (.nd (.nd (.nd (.nd .lf 176 Tryz.t176 .lf) 177 Tryz.t177 (.nd .lf 178 Tryz.t178 .lf)) 179 Tryz.t179 (.nd (.nd .lf 180 Tryz.t180 .lf) 181 Tryz.t181 .lf)) 182 Tryz.t182 (.nd (.nd (.nd .lf 183 Tryz.t183 .lf) 184 Tryz.t184 .lf) 185 Tryz.t185 (.nd (.nd .lf 186 Tryz.t186 .lf) 187 Tryz.t187 .lf)))) 188 Tryz.t188 (.nd (.nd (.nd (.nd (.nd .lf 189 Tryz.t189 .lf) 190 Tryz.t190 (.nd .lf 191 Tryz.t191 .lf)) 192 Tryz.t192 (.nd (.nd .lf 193 Tryz.t193 .lf) 194 Tryz.t194 .lf)) 195 Tryz.t195 (.nd (.nd (.nd .lf 196 Tryz.t196 .lf) 197 Tryz.t197 .lf) 198 Tryz.t198 (.nd (.nd .lf 199 Tryz.t199 .lf) 200 Tryz.t200 .lf))) 201 Tryz.t201 (.nd (.nd (.nd (.nd .lf 202 Tryz.t202 .lf) 203 Tryz.t203 (.nd .lf 204 Tryz.t204 .lf)) 205 Tryz.t205 (.nd (.nd .lf 206 Tryz.t206 .lf) 207 Tryz.t207 .lf)) 208 Tryz.t208 (.nd (.nd (.nd .lf 209 Tryz.t209 .lf) 210 Tryz.t210 .lf) 211 Tryz.t211 (.nd (.nd .lf 212 Tryz.t212 .lf) 213 Tryz.t213 .lf))))))) 214 Tryz.t214 (.nd (.nd (.nd (.nd (.nd (.nd (.nd (.nd .lf 215 Tryz.t215 .lf) 216 Tryz.t216 (.nd .lf 217 Tryz.t217 .lf)) 218 Tryz.t218 (.nd (.nd .lf 219 Tryz.t219 .lf) 220 Tryz.t220 .lf)) 221 Tryz.t221 (.nd (.nd (.nd .lf 222 Tryz.t222 .lf) 223 Tryz.t223 (.nd .lf 224 Tryz.t224 .lf)) 225 Tryz.t225 (.nd (.nd .lf 226 Tryz.t226 .lf) 227 Tryz.t227 .lf))) 228 Tryz.t228 (.nd (.nd (.nd (.nd .lf 229 Tryz.t229 .lf) 230 Tryz.t230 (.nd .lf 231 Tryz.t231 .lf)) 232 Tryz.t232 (.nd (.nd .lf 233 Tryz.t233 .lf) 234 Tryz.t234 .lf)) 235 Tryz.t235 (.nd (.nd (.nd .lf 236 Tryz.t236 .lf) 237 Tryz.t237 .lf) 238 Tryz.t238 (.nd (.nd .lf 239 Tryz.t239 .lf) 240 Tryz.t240 .lf)))) 241 Tryz.t241 (.nd (.nd (.nd (.nd (.nd .lf 242 Tryz.t242 .lf) 243 Tryz.t243 (.nd .lf 244 Tryz.t244 .lf)) 245 Tryz.t245 (.nd (.nd .lf 246 Tryz.t246 .lf) 247 Tryz.t247 .lf)) 248 Tryz.t248 (.nd (.nd (.nd .lf 249 Tryz.t249 .lf) 250 Tryz.t250 (.nd .lf 251 Tryz.t251 .lf)) 252 Tryz.t252 (.nd (.nd .lf 253 Tryz.t253 .lf) 254 Tryz.t254 .lf))) 255 Tryz.t255 (.nd (.nd (.nd (.nd .lf 256 Tryz.t256 .lf) 257 Tryz.t257 (.nd .lf 258 Tryz.t258 .lf)) 259 Tryz.t259 (.nd (.nd .lf 260 Tryz.t260 .lf) 261 Tryz.t261 .lf)) 262 Tryz.t262 (.nd (.nd (.nd .lf 263 Tryz.t263 .lf) 264 Tryz.t264 .lf) 265 Tryz.t265 (.nd (.nd .lf 266 Tryz.t266 .lf) 267 Tryz.t267 .lf))))) 268 Tryz.t268 (.nd (.nd (.nd (.nd (.nd (.nd .lf 269 Tryz.t269 .lf) 270 Tryz.t270 (.nd .lf 271 Tryz.t271 .lf)) 272 Tryz.t272 (.nd (.nd .lf 273 Tryz.t273 .lf) 274 Tryz.t274 .lf)) 275 Tryz.t275 (.nd (.nd (.nd .lf 276 Tryz.t276 .lf) 277 Tryz.t277 (.nd .lf 278 Tryz.t278 .lf)) 279 Tryz.t279 (.nd (.nd .lf 280 Tryz.t280 .lf) 281 Tryz.t281 .lf))) 282 Tryz.t282 (.nd (.nd (.nd (.nd .lf 283 Tryz.t283 .lf) 284 Tryz.t284 (.nd .lf 285 Tryz.t285 .lf)) 286 Tryz.t286 (.nd (.nd .lf 287 Tryz.t287 .lf) 288 Tryz.t288 .lf)) 289 Tryz.t289 (.nd (.nd (.nd .lf 290 Tryz.t290 .lf) 291 Tryz.t291 .lf) 292 Tryz.t292 (.nd (.nd .lf 293 Tryz.t293 .lf) 294 Tryz.t294 .lf)))) 295 Tryz.t295 (.nd (.nd (.nd (.nd (.nd .lf 296 Tryz.t296 .lf) 297 Tryz.t297 (.nd .lf 298 Tryz.t298 .lf)) 299 Tryz.t299 (.nd (.nd .lf 300 Tryz.t300 .lf) 301 Tryz.t301 .lf)) 302 Tryz.t302 (.nd (.nd (.nd .lf 303 Tryz.t303 .lf) 304 Tryz.t304 (.nd .lf 305 Tryz.t305 .lf)) 306 Tryz.t306 (.nd (.nd .lf 307 Tryz.t307 .lf) 308 Tryz.t308 .lf))) 309 Tryz.t309 (.nd (.nd (.nd (.nd .lf 310 Tryz.t310 .lf) 311 Tryz.t311 (.nd .lf 312 Tryz.t312 .lf)) 313 Tryz.t313 (.nd (.nd .lf 314 Tryz.t314 .lf) 315 Tryz.t315 .lf)) 316 Tryz.t316 (.nd (.nd (.nd .lf 317 Tryz.t317 .lf) 318 Tryz.t318 .lf) 319 Tryz.t319 (.nd (.nd .lf 320 Tryz.t320 .lf) 321 Tryz.t321 .lf)))))) 322 Tryz.t322 (.nd (.nd (.nd (.nd (.nd (.nd (.nd .lf 323 Tryz.t323 .lf) 324 Tryz.t324 (.nd .lf 325 Tryz.t325 .lf)) 326 Tryz.t326 (.nd (.nd .lf 327 Tryz.t327 .lf) 328 Tryz.t328 .lf)) 329 Tryz.t329 (.nd (.nd (.nd .lf 330 Tryz.t330 .lf) 331 Tryz.t331 (.nd .lf 332 Tryz.t332 .lf)) 333 Tryz.t333 (.nd (.nd .lf 334 Tryz.t334 .lf) 335 Tryz.t335 .lf))) 336 Tryz.t336 (.nd (.nd (.nd (.nd .lf 337 Tryz.t337 .lf) 338 Tryz.t338 (.nd .lf 339 Tryz.t339 .lf)) 340 Tryz.t340 (.nd (.nd .lf 341 Tryz.t341 .lf) 342 Tryz.t342 .lf)) 343 Tryz.t343 (.nd (.nd (.nd .lf 344 Tryz.t344 .lf) 345 Tryz.t345 .lf) 346 Tryz.t346 (.nd (.nd .lf 347 Tryz.t347 .lf) 348 Tryz.t348 .lf)))) 349 Tryz.t349 (.nd (.nd (.nd (.nd (.nd .lf 350 Tryz.t350 .lf) 351 Tryz.t351 (.nd .lf 352 Tryz.t352 .lf)) 353 Tryz.t353 (.nd (.nd .lf 354 Tryz.t354 .lf) 355 Tryz.t355 .lf)) 356 Tryz.t356 (.nd (.nd (.nd .lf 357 Tryz.t357 .lf) 358 Tryz.t358 (.nd .lf 359 Tryz.t359 .lf)) 360 Tryz.t360 (.nd (.nd .lf 361 Tryz.t361 .lf) 362 Tryz.t362 .lf))) 363 Tryz.t363 (.nd (.nd (.nd (.nd .lf 364 Tryz.t364 .lf) 365 Tryz.t365 (.nd .lf 366 Tryz.t366 .lf)) 367 Tryz.t367 (.nd (.nd .lf 368 Tryz.t368 .lf) 369 Tryz.t369 .lf)) 370 Tryz.t370 (.nd (.nd (.nd .lf 371 Tryz.t371 .lf) 372 Tryz.t372 .lf) 373 Tryz.t373 (.nd (.nd .lf 374 Tryz.t374 .lf) 375 Tryz.t375 .lf))))) 376 Tryz.t376 (.nd (.nd (.nd (.nd (.nd (.nd .lf 377 Tryz.t377 .lf) 378 Tryz.t378 (.nd .lf 379 Tryz.t379 .lf)) 380 Tryz.t380 (.nd (.nd .lf 381 Tryz.t381 .lf) 382 Tryz.t382 .lf)) 383 Tryz.t383 (.nd (.nd (.nd .lf 384 Tryz.t384 .lf) 385 Tryz.t385 (.nd .lf 386 Tryz.t386 .lf)) 387 Tryz.t387 (.nd (.nd .lf 388 Tryz.t388 .lf) 389 Tryz.t389 .lf))) 390 Tryz.t390 (.nd (.nd (.nd (.nd .lf 391 Tryz.t391 .lf) 392 Tryz.t392 (.nd .lf 393 Tryz.t393 .lf)) 394 Tryz.t394 (.nd (.nd .lf 395 Tryz.t395 .lf) 396 Tryz.t396 .lf)) 397 Tryz.t397 (.nd (.nd (.nd .lf 398 Tryz.t398 .lf) 399 Tryz.t399 .lf) 400 Tryz.t400 (.nd (.nd .lf 401 Tryz.t401 .lf) 402 Tryz.t402 .lf)))) 403 Tryz.t403 (.nd (.nd (.nd (.nd (.nd .lf 404 Tryz.t404 .lf) 405 Tryz.t405 (.nd .lf 406 Tryz.t406 .lf)) 407 Tryz.t407 (.nd (.nd .lf 408 Tryz.t408 .lf) 409 Tryz.t409 .lf)) 410 Tryz.t410 (.nd (.nd (.nd .lf 411 Tryz.t411 .lf) 412 Tryz.t412 .lf) 413 Tryz.t413 (.nd (.nd .lf 414 Tryz.t414 .lf) 415 Tryz.t415 .lf))) 416 Tryz.t416 (.nd (.nd (.nd (.nd .lf 417 Tryz.t417 .lf) 418 Tryz.t418 (.nd .lf 419 Tryz.t419 .lf)) 420 Tryz.t420 (.nd (.nd .lf 421 Tryz.t421 .lf) 422 Tryz.t422 .lf)) 423 Tryz.t423 (.nd (.nd (.nd .lf 424 Tryz.t424 .lf) 425 Tryz.t425 .lf) 426 Tryz.t426 (.nd (.nd .lf 427 Tryz.t427 .lf) 428 Tryz.t428 .lf))))))))
noncomputable def fns:Bt Func:=(.nd (.nd (.nd (.nd (.nd (.nd (.nd (.nd (.nd .lf 0 Tryz.f0 .lf) 1 Tryz.f1 .lf) 2 Tryz.f2 (.nd (.nd .lf 3 Tryz.f3 .lf) 4 Tryz.f4 .lf)) 5 Tryz.f5 (.nd (.nd (.nd .lf 6 Tryz.f6 .lf) 7 Tryz.f7 .lf) 8 Tryz.f8 (.nd (.nd .lf 9 Tryz.f9 .lf) 10 Tryz.f10 .lf))) 11 Tryz.f11 (.nd (.nd (.nd (.nd .lf 12 Tryz.f12 .lf) 13 Tryz.f13 .lf) 14 Tryz.f14 (.nd (.nd .lf 15 Tryz.f15 .lf) 16 Tryz.f16 .lf)) 17 Tryz.f17 (.nd (.nd (.nd .lf 18 Tryz.f18 .lf) 19 Tryz.f19 .lf) 20 Tryz.f20 (.nd (.nd .lf 21 Tryz.f21 .lf) 22 Tryz.f22 .lf)))) 23 Tryz.f23 (.nd (.nd (.nd (.nd (.nd .lf 24 Tryz.f24 .lf) 25 Tryz.f25 .lf) 26 Tryz.f26 (.nd (.nd .lf 27 Tryz.f27 .lf) 28 Tryz.f28 .lf)) 29 Tryz.f29 (.nd (.nd (.nd .lf 30 Tryz.f30 .lf) 31 Tryz.f31 .lf) 32 Tryz.f32 (.nd (.nd .lf 33 Tryz.f33 .lf) 34 Tryz.f34 .lf))) 35 Tryz.f35 (.nd (.nd (.nd (.nd .lf 36 Tryz.f36 .lf) 37 Tryz.f37 .lf) 38 Tryz.f38 (.nd (.nd .lf 39 Tryz.f39 .lf) 40 Tryz.f40 .lf)) 41 Tryz.f41 (.nd (.nd (.nd .lf 42 Tryz.f42 .lf) 43 Tryz.f43 .lf) 44 Tryz.f44 (.nd .lf 45 Tryz.f45 .lf))))) 46 Tryz.f46 (.nd (.nd (.nd (.nd (.nd (.nd .lf 47 Tryz.f47 .lf) 48 Tryz.f48 .lf) 49 Tryz.f49 (.nd (.nd .lf 50 Tryz.f50 .lf) 51 Tryz.f51 .lf)) 52 Tryz.f52 (.nd (.nd (.nd .lf 53 Tryz.f53 .lf) 54 Tryz.f54 .lf) 55 Tryz.f55 (.nd (.nd .lf 56 Tryz.f56 .lf) 57 Tryz.f57 .lf))) 58 Tryz.f58 (.nd (.nd (.nd (.nd .lf 59 Tryz.f59 .lf) 60 Tryz.f60 .lf) 61 Tryz.f61 (.nd (.nd .lf 62 Tryz.f62 .lf) 63 Tryz.f63 .lf)) 64 Tryz.f64 (.nd (.nd (.nd .lf 65 Tryz.f65 .lf) 66 Tryz.f66 .lf) 67 Tryz.f67 (.nd .lf 68 Tryz.f68 .lf)))) 69 Tryz.f69 (.nd (.nd (.nd (.nd (.nd .lf 70 Tryz.f70 .lf) 71 Tryz.f71 .lf) 72 Tryz.f72 (.nd (.nd .lf 73 Tryz.f73 .lf) 74 Tryz.f74 .lf)) 75 Tryz.f75 (.nd (.nd (.nd .lf 76 Tryz.f76 .lf) 77 Tryz.f77 .lf) 78 Tryz.f78 (.nd (.nd .lf 79 Tryz.f79 .lf) 80 Tryz.f80 .lf))) 81 Tryz.f81 (.nd (.nd (.nd (.nd .lf 82 Tryz.f82 .lf) 83 Tryz.f83 .lf) 84 Tryz.f84 (.nd (.nd .lf 85 Tryz.f85 .lf) 86 Tryz.f86 .lf)) 87 Tryz.f87 (.nd (.nd (.nd .lf 88 Tryz.f88 .lf) 89 Tryz.f89 .lf) 90 Tryz.f90 (.nd .lf 91 Tryz.f91 .lf)))))) 92 Tryz.f92 (.nd (.nd (.nd (.nd (.nd (.nd (.nd .lf 93 Tryz.f93 .lf) 94 Tryz.f94 .lf) 95 Tryz.f95 (.nd (.nd .lf 96 Tryz.f96 .lf) 97 Tryz.f97 .lf)) 98 Tryz.f98 (.nd (.nd (.nd .lf 99 Tryz.f99 .lf) 100 Tryz.f100 .lf) 101 Tryz.f101 (.nd (.nd .lf 102 Tryz.f102 .lf) 103 Tryz.f103 .lf))) 104 Tryz.f104 (.nd (.nd (.nd (.nd .lf 105 Tryz.f105 .lf) 106 Tryz.f106 .lf) 107 Tryz.f107 (.nd (.nd .lf 108 Tryz.f108 .lf) 109 Tryz.f109 .lf)) 110 Tryz.f110 (.nd (.nd (.nd .lf 111 Tryz.f111 .lf) 112 Tryz.f112 .lf) 113 Tryz.f113 (.nd (.nd .lf 114 Tryz.f114 .lf) 115 Tryz.f115 .lf)))) 116 Tryz.f116 (.nd (.nd (.nd (.nd (.nd .lf 117 Tryz.f117 .lf) 118 Tryz.f118 .lf) 119 Tryz.f119 (.nd (.nd .lf 120 Tryz.f120 .lf) 121 Tryz.f121 .lf)) 122 Tryz.f122 (.nd (.nd (.nd .lf 123 Tryz.f123 .lf) 124 Tryz.f124 .lf) 125 Tryz.f125 (.nd (.nd .lf 126 Tryz.f126 .lf) 127 Tryz.f127 .lf))) 128 Tryz.f128 (.nd (.nd (.nd (.nd .lf 129 Tryz.f129 .lf) 130 Tryz.f130 .lf) 131 Tryz.f131 (.nd (.nd .lf 132 Tryz.f132 .lf) 133 Tryz.f133 .lf)) 134 Tryz.f134 (.nd (.nd (.nd .lf 135 Tryz.f135 .lf) 136 Tryz.f136 .lf) 137 Tryz.f137 (.nd .lf 138 Tryz.f138 .lf))))) 139 Tryz.f139 (.nd (.nd (.nd (.nd (.nd (.nd .lf 140 Tryz.f140 .lf) 141 Tryz.f141 .lf) 142 Tryz.f142 (.nd (.nd .lf 143 Tryz.f143 .lf) 144 Tryz.f144 .lf)) 145 Tryz.f145 (.nd (.nd (.nd .lf 146 Tryz.f146 .lf) 147 Tryz.f147 .lf) 148 Tryz.f148 (.nd (.nd .lf 149 Tryz.f149 .lf) 150 Tryz.f150 .lf))) 151 Tryz.f151 (.nd (.nd (.nd (.nd .lf 152 Tryz.f152 .lf) 153 Tryz.f153 .lf) 154 Tryz.f154 (.nd (.nd .lf 155 Tryz.f155 .lf) 156 Tryz.f156 .lf)) 157 Tryz.f157 (.nd (.nd (.nd .lf 158 Tryz.f158 .lf) 159 Tryz.f159 .lf) 160 Tryz.f160 (.nd .lf 161 Tryz.f161 .lf)))) 162 Tryz.f162 (.nd (.nd (.nd (.nd (.nd .lf 163 Tryz.f163 .lf) 164 Tryz.f164 .lf) 165 Tryz.f165 (.nd (.nd .lf 166 Tryz.f166 .lf) 167 Tryz.f167 .lf)) 168 Tryz.f168 (.nd (.nd (.nd .lf 169 Tryz.f169 .lf) 170 Tryz.f170 .lf) 171 Tryz.f171 (.nd (.nd .lf 172 Tryz.f172 .lf) 173 Tryz.f173 .lf))) 174 Tryz.f174 (.nd (.nd (.nd (.nd .lf 175 Tryz.f175 .lf) 176 Tryz.f176 .lf) 177 Tryz.f177 (.nd (.nd .lf 178 Tryz.f178 .lf) 179 Tryz.f179 .lf)) 180 Tryz.f180 (.nd (.nd (.nd .lf 181 Tryz.f181 .lf) 182 Tryz.f182 .lf) 183 Tryz.f183 (.nd .lf 184 Tryz.f184 .lf))))))) 185 Tryz.f185 (.nd (.nd (.nd (.nd (.nd (.nd (.nd (.nd .lf 186 Tryz.f186 .lf) 187 Tryz.f187 .lf) 188 Tryz.f188 (.nd (.nd .lf 189 Tryz.f189 .lf) 190 Tryz.f190 .lf)) 191 Tryz.f191 (.nd (.nd (.nd .lf 192 Tryz.f192 .lf) 193 Tryz.f193 .lf) 194 Tryz.f194 (.nd (.nd .lf 195 Tryz.f195 .lf) 196 Tryz.f196 .lf))) 197 Tryz.f197 (.nd (.nd (.nd (.nd .lf 198 Tryz.f198 .lf) 199 Tryz.f199 .lf) 200 Tryz.f200 (.nd (.nd .lf 201 Tryz.f201 .lf) 202 Tryz.f202 .lf)) 203 Tryz.f203 (.nd (.nd (.nd .lf 204 Tryz.f204 .lf) 205 Tryz.f205 .lf) 206 Tryz.f206 (.nd (.nd .lf 207 Tryz.f207 .lf) 208 Tryz.f208 .lf)))) 209 Tryz.f209 (.nd (.nd (.nd (.nd (.nd .lf 210 Tryz.f210 .lf) 211 Tryz.f211 .lf) 212 Tryz.f212 (.nd (.nd .lf 213 Tryz.f213 .lf) 214 Tryz.f214 .lf)) 215 Tryz.f215 (.nd (.nd (.nd .lf 216 Tryz.f216 .lf) 217 Tryz.f217 .lf) 218 Tryz.f218 (.nd (.nd .lf 219 Tryz.f219 .lf) 220 Tryz.f220 .lf))) 221 Tryz.f221 (.nd (.nd (.nd (.nd .lf 222 Tryz.f222 .lf) 223 Tryz.f223 .lf) 224 Tryz.f224 (.nd (.nd .lf 225 Tryz.f225 .lf) 226 Tryz.f226 .lf)) 227 Tryz.f227 (.nd (.nd (.nd .lf 228 Tryz.f228 .lf) 229 Tryz.f229 .lf) 230 Tryz.f230 (.nd .lf 231 Tryz.f231 .lf))))) 232 Tryz.f232 (.nd (.nd (.nd (.nd (.nd (.nd .lf 233 Tryz.f233 .lf) 234 Tryz.f234 .lf) 235 Tryz.f235 (.nd (.nd .lf 236 Tryz.f236 .lf) 237 Tryz.f237 .lf)) 238 Tryz.f238 (.nd (.nd (.nd .lf 239 Tryz.f239 .lf) 240 Tryz.f240 .lf) 241 Tryz.f241 (.nd (.nd .lf 242 Tryz.f242 .lf) 243 Tryz.f243 .lf))) 244 Tryz.f244 (.nd (.nd (.nd (.nd .lf 245 Tryz.f245 .lf) 246 Tryz.f246 .lf) 247 Tryz.f247 (.nd (.nd .lf 248 Tryz.f248 .lf) 249 Tryz.f249 .lf)) 250 Tryz.f250 (.nd (.nd (.nd .lf 251 Tryz.f251 .lf) 252 Tryz.f252 .lf) 253 Tryz.f253 (.nd .lf 254 Tryz.f254 .lf)))) 255 Tryz.f255 (.nd (.nd (.nd (.nd (.nd .lf 256 Tryz.f256 .lf) 257 Tryz.f257 .lf) 258 Tryz.f258 (.nd (.nd .lf 259 Tryz.f259 .lf) 260 Tryz.f260 .lf)) 261 Tryz.f261 (.nd (.nd (.nd .lf 262 Tryz.f262 .lf) 263 Tryz.f263 .lf) 264 Tryz.f264 (.nd (.nd .lf 265 Tryz.f265 .lf) 266 Tryz.f266 .lf))) 267 Tryz.f267 (.nd (.nd (.nd (.nd .lf 268 Tryz.f268 .lf) 269 Tryz.f269 .lf) 270 Tryz.f270 (.nd (.nd .lf 271 Tryz.f271 .lf) 272 Tryz.f272 .lf)) 273 Tryz.f273 (.nd (.nd (.nd .lf 274 Tryz.f274 .lf) 275 Tryz.f275 .lf) 276 Tryz.f276 (.nd .lf 277 Tryz.f277 .lf)))))) 278 Tryz.f278 (.nd (.nd (.nd (.nd (.nd (.nd (.nd .lf 279 Tryz.f279 .lf) 280 Tryz.f280 .lf) 281 Tryz.f281 (.nd (.nd .lf 282 Tryz.f282 .lf) 283 Tryz.f283 .lf)) 284 Tryz.f284 (.nd (.nd (.nd .lf 285 Tryz.f285 .lf) 286 Tryz.f286 .lf) 287 Tryz.f287 (.nd (.nd .lf 288 Tryz.f288 .lf) 289 Tryz.f289 .lf))) 290 Tryz.f290 (.nd (.nd (.nd (.nd .lf 291 Tryz.f291 .lf) 292 Tryz.f292 .lf) 293 Tryz.f293 (.nd (.nd .lf 294 Tryz.f294 .lf) 295 Tryz.f295 .lf)) 296 Tryz.f296 (.nd (.nd (.nd .lf 297 Tryz.f297 .lf) 298 Tryz.f298 .lf) 299 Tryz.f299 (.nd (.nd .lf 300 Tryz.f300 .lf) 301 Tryz.f301 .lf)))) 302 Tryz.f302 (.nd (.nd (.nd (.nd (.nd .lf 303 Tryz.f303 .lf) 304 Tryz.f304 .lf) 305 Tryz.f305 (.nd (.nd .lf 306 Tryz.f306 .lf) 307 Tryz.f307 .lf)) 308 Tryz.f308 (.nd (.nd (.nd .lf 309 Tryz.f309 .lf) 310 Tryz.f310 .lf) 311 Tryz.f311 (.nd (.nd .lf 312 Tryz.f312 .lf) 313 Tryz.f313 .lf))) 314 Tryz.f314 (.nd (.nd (.nd (.nd .lf 315 Tryz.f315 .lf) 316 Tryz.f316 .lf) 317 Tryz.f317 (.nd (.nd .lf 318 Tryz.f318 .lf) 319 Tryz.f319 .lf)) 320 Tryz.f320 (.nd (.nd (.nd .lf 321 Tryz.f321 .lf) 322 Tryz.f322 .lf) 323 Tryz.f323 (.nd .lf 324 Tryz.f324 .lf))))) 325 Tryz.f325 (.nd (.nd (.nd (.nd (.nd (.nd .lf 326 Tryz.f326 .lf) 327 Tryz.f327 .lf) 328 Tryz.f328 (.nd (.nd .lf 329 Tryz.f329 .lf) 330 Tryz.f330 .lf)) 331 Tryz.f331 (.nd (.nd (.nd .lf 332 Tryz.f332 .lf) 333 Tryz.f333 .lf) 334 Tryz.f334 (.nd (.nd .lf 335 Tryz.f335 .lf) 336 Tryz.f336 .lf))) 337 Tryz.f337 (.nd (.nd (.nd (.nd .lf 338 Tryz.f338 .lf) 339 Tryz.f339 .lf) 340 Tryz.f340 (.nd (.nd .lf 341 Tryz.f341 .lf) 342 Tryz.f342 .lf)) 343 Tryz.f343 (.nd (.nd (.nd .lf 344 Tryz.f344 .lf) 345 Tryz.f345 .lf) 346 Tryz.f346 (.nd .lf 347 Tryz.f347 .lf)))) 348 Tryz.f348 (.nd (.nd (.nd (.nd (.nd .lf 349 Tryz.f349 .lf) 350 Tryz.f350 .lf) 351 Tryz.f351 (.nd (.nd .lf 352 Tryz.f352 .lf) 353 Tryz.f353 .lf)) 354 Tryz.f354 (.nd (.nd (.nd .lf 355 Tryz.f355 .lf) 356 Tryz.f356 .lf) 357 Tryz.f357 (.nd (.nd .lf 358 Tryz.f358 .lf) 359 Tryz.f359 .lf))) 360 Tryz.f360 (.nd (.nd (.nd (.nd .lf 361 Tryz.f361 .lf) 362 Tryz.f362 .lf) 363 Tryz.f363 (.nd (.nd .lf 364 Tryz.f364 .lf) 365 Tryz.f365 .lf)) 366 Tryz.f366 (.nd (.nd (.nd .lf 367 Tryz.f367 .lf) 368 Tryz.f368 .lf) 369 Tryz.f369 (.nd .lf 370 Tryz.f370 .lf))))))))
noncomputable def JE:aU:=⟨fun i=>match Nat.blt i 429 with | true=>tys.get i | false=>none,fun i=>match Nat.blt i 371 with | true=>fns.get i | false=>none⟩
set_option maxRecDepth 100000 in
theorem XL:(List.range 429).map tys.get=Tryz.types.toList.map some:=by kernel_rfl
theorem XM:(List.range 371).map fns.get=Tryz.funcs.toList.map some:=by kernel_rfl
theorem aB:JE.Ok Tryz.prog:=aU.aan (ts:=Tryz.types) (fs:=Tryz.funcs) rfl rfl (fun _ _ h=>MM XL h) (fun _ _ h=>MM XM h)
end Go.Proofs.YtcfioaeamfappaaGreatDoor
namespace Go.Sl
theorem mem {p:Prop}(h:p:=by repeat (first | exact List.Mem.head _ | apply List.Mem.tail)):p:=h
theorem pick {p:Prop}(h:p:=by repeat (first | exact kb _ _ | apply ke)):p:=h
theorem aaF {α:Type}{a b:α}{l m n:List α}(h:l.Perm (a :: m))(g:m.Perm (b :: n)):l.Perm (a :: b :: n):=h.trans (g.cons a)
theorem HP {p:Prop}(h:p:=by apply aaF;exact pick;exact pick):p:=h
theorem Sq {Ls As l Rs:List Chunk}{A:Chunk}(h:gH Ls (A :: (l++As)) Rs):gH Ls ((A :: l)++As) Rs:=h
theorem Sr {Ls As Rs:List Chunk}(h:gH Ls As Rs):gH Ls ([]++As) Rs:=h
theorem aa {p:Prop}(h:p:=by repeat (first | exact M1 _ | (with_reducible apply Sq) | (with_reducible apply Sr) | (with_reducible apply Jz) | (with_reducible apply M3) | (apply Jy;exact pick))):p:=h
theorem XN {p:Prop}(h:p:=by repeat (first | exact HM.nil | (with_reducible apply HM.app) | apply HM.cons)):p:=h
theorem aaG {Ms Ls:List Chunk}:cJ 3 Ms Ls:=fun h=>by cases h
theorem aaH {κ:Nat}{Ls:List Chunk}:cJ κ [] Ls:=fun _ _ h=>by cases h
theorem aaI {κ:Nat}{Ms Ls:List Chunk}(h:∀C∈Ms,C∈Ls):cJ κ Ms Ls:=fun _=>h
theorem Nd {Ls:List Chunk}:∀C∈([]:List Chunk),C∈Ls:=fun _ h=>by cases h
theorem Nf {A:Chunk}{Ms Ls:List Chunk}(h:A∈Ls)(g:∀C∈Ms,C∈Ls):∀C∈A :: Ms,C∈Ls:=List.forall_mem_cons.2 ⟨h,g⟩
theorem keeps {p:Prop}(h:p:=by first | exact aaG | exact aaH | (apply aaI;repeat (first | exact Nd | (apply Nf;exact mem)))):p:=h
section
variable {x y:Nat}{z:Int}
theorem acM (h:x+@OfNat.ofNat Nat y (instOfNatNat y)<9223372036854775808):IntKind.i64.wrap ((x:Int)+@OfNat.ofNat Int y instOfNat)=((x+@OfNat.ofNat Nat y (instOfNatNat y):Nat):Int):=wa1 h
theorem aaJ (h:x<9223372036854775808):IntKind.i64.wrap ((x:Int)+0)=(x:Int):=by rw [Int.add_zero];exact Mx h
theorem aaK (h:x<9223372036854775808):IntKind.i64.wrap ((x:Int) - 0)=(x:Int):=by rw [Int.sub_zero];exact Mx h
theorem acN (h:@OfNat.ofNat Nat y (instOfNatNat y)<=x)(h':x<9223372036854775808):IntKind.i64.wrap ((x:Int) - @OfNat.ofNat Int y instOfNat)=((x - @OfNat.ofNat Nat y (instOfNatNat y):Nat):Int):=ws1 h h'
theorem acO (h:x*@OfNat.ofNat Nat y (instOfNatNat y)<9223372036854775808):IntKind.i64.wrap ((x:Int)*@OfNat.ofNat Int y instOfNat)=((x*@OfNat.ofNat Nat y (instOfNatNat y):Nat):Int):=wm1 h
theorem aaL (h:@OfNat.ofNat Nat y (instOfNatNat y)*x<9223372036854775808):IntKind.i64.wrap (@OfNat.ofNat Int y instOfNat*(x:Int))=((@OfNat.ofNat Nat y (instOfNatNat y)*x:Nat):Int):=wm1 h
theorem acP (h':x<9223372036854775808):IntKind.i64.wrap (((x:Int)).tdiv (@OfNat.ofNat Int y instOfNat))=((x / @OfNat.ofNat Nat y (instOfNatNat y):Nat):Int):=Xk h'
theorem acQ:((x:Int)).tmod (@OfNat.ofNat Int y instOfNat)=((x % @OfNat.ofNat Nat y (instOfNatNat y):Nat):Int):=Xl
theorem VU (h':x<9223372036854775808):IntKind.i64.wrap (((x:Int)).tdiv (y:Int))=((x / y:Nat):Int):=by
 have e:((x:Int)).tdiv (y:Int)=((x / y:Nat):Int):=by rw [Int.tdiv_eq_ediv_of_nonneg oZ];rfl
 have h2:=Nat.div_le_self x y
 rw [e]
 generalize x / y=q at *
 exact IntWalk.i64_in _ oZ
theorem aaM:((x:Int)).tmod (y:Int)=((x % y:Nat):Int):=by rw [Int.tmod_eq_emod_of_nonneg oZ];rfl
theorem acR (h:x+@OfNat.ofNat Nat y (instOfNatNat y)<18446744073709551616):IntKind.u64.wrap ((x:Int)+@OfNat.ofNat Int y instOfNat)=((x+@OfNat.ofNat Nat y (instOfNatNat y):Nat):Int):=by
 show IntKind.u64.wrap ((x:Int)+(y:Int))=((x+y:Nat):Int)
 have h':x+y<18446744073709551616:=h
 rw [IntWalk.u64_in _ oZ];omega
theorem acS {j:Nat}(h:x*2 ^ j<18446744073709551616):IntKind.u64.wrap ((x:Int)*2 ^ ((j:Nat):Int).toNat)=((x*2 ^ j:Nat):Int):=aal h
theorem XO {bs:List UInt8}{i:Nat}{c:UInt8}(h:bs[i]? = some c):(ak bs)[i]? = some (.int .u8 c.toNat):=by simp [ak,h]
theorem XP {α:Type}{f:α->Value}{l:List α}{i:Nat}{a:α}(h:l[i]? = some a):(l.map f)[i]? = some (f a):=by simp [h]
theorem eB {α:Type}{l:List α}{i:Nat}(h:i<l.length):∃x,l[i]? = some x:=⟨_,List.getElem?_eq_getElem h⟩
theorem z00 {s:Nat}:0+0*s=0:=by omega
theorem z01 {i:Nat}:0+i*1=i:=by omega
theorem z02 {i s:Nat}:0+i*s=i*s:=by omega
theorem z03 {o i:Nat}:o+i*1=o+i:=by omega
theorem acT:@OfNat.ofNat Int y instOfNat=((@OfNat.ofNat Nat y (instOfNatNat y):Nat):Int):=rfl
end
theorem cells {p:Prop}(h:p:=by first | assumption | exact XO (by assumption) | exact XP (by assumption) | exact acj (by assumption) | exact ack (by assumption) | exact rfl):p:=h
theorem aaN {p:Prop}(h:p:=by first | assumption | exact aK _ | exact MG _ | exact aaO _):p:=h
theorem arith {p:Prop}(h:p:=by first
 | (with_reducible assumption)
 | (with_reducible exact wu8 _) | (with_reducible exact wi8 _) | ((with_reducible refine acS ?_);assumption) | ((with_reducible refine oru ?_ ?_);assumption;assumption)
 | ((with_reducible refine aaJ ?_);omega) | ((with_reducible refine aaK ?_);omega) | ((with_reducible refine wa1 ?_);omega) | ((with_reducible refine acM ?_);omega) | ((with_reducible refine ws1 ?_ ?_);omega;omega) | ((with_reducible refine acN ?_ ?_);omega;omega)
 | ((with_reducible refine acO ?_);omega) | ((with_reducible refine aaL ?_);omega) | ((with_reducible refine wm1 ?_);omega)
 | ((with_reducible refine acP ?_);omega) | (with_reducible exact acQ) | ((with_reducible refine VU ?_);omega) | (with_reducible exact aaM) | ((with_reducible refine acR ?_);omega)
 | ((with_reducible refine Mx ?_);omega) | ((with_reducible refine Fv ?_);omega) | ((with_reducible refine Xm ?_);omega) | ((with_reducible refine My ?_);omega) | exact rfl):p:=h
theorem szs {p:Prop}(h:p:=by constructor <;> (try simp only [maxLen]) <;> omega):p:=h
theorem Ss {p:Prop}(h:p:=by first | exact XG (by assumption) mem rfl | exact acD (by assumption) mem rfl | exact afh rfl | exact acE mem rfl rfl oZ rfl):p:=h
theorem lens {p:Prop}(h:p:=by first | omega | (refine ⟨?_, ?_, ?_, ?_⟩ <;> omega) | ((try simp only [List.length_replicate,List.length_append,List.length_map,List.length_cons,List.length_nil,ai,List.length_take,List.length_drop]) <;> omega)):p:=h
theorem LL {p:Prop}(h:p:=by first | exact Bd.none | (apply Bd.some;exact rfl;exact mh)):p:=h
theorem XQ {p q:Int}(h:p≠q):(p != q)=true:=by simp [h]
theorem XR {p q:Int}(h:p=q):(p != q)=false:=by simp [h]
theorem Su {b:Bool}(h:b=true):(!b)=false:=by rw [h];rfl
theorem place {p:Prop}(h:p:=by first | (with_reducible first | exact z00 | exact z01 | exact z02 | exact z03 | exact Nat.add_assoc _ _ _) | exact rfl):p:=h
theorem mh {p:Prop}(h:p:=by first | (with_reducible exact rfl) | exact acT | exact rfl):p:=h
theorem om {p:Prop}(h:p:=by first | omega | decide):p:=h
theorem VV {p:Prop}(h:p:=by refine ⟨?_, ?_⟩ <;> (try simp only [IntKind.bits]) <;> omega):p:=h
theorem acU {a:Value}:one [a]=a:=rfl
theorem Sv {p:Prop}(h:p:=by first | exact acU | exact afi | exact afj | exact afk | exact afl):p:=h
theorem aaP {p:Prop}(h:p:=by first | exact True.intro | decide | omega):p:=h
end Go.Sl
namespace Go.Proofs.YtcfioaeamfappaaGreatDoor
open Go.Sl
theorem XS {p:Prop}(h:p:=by first | exact acv | exact acw | exact acx | exact acy | exact acz | exact acA | exact acB):p:=h
abbrev Ct (g:FuncId)(args:List Value)(As:List Chunk)(cp:Value->List Chunk->Prop):Prop:=LJ Tryz.prog g args As cp
section
variable {X:Cx}{f:Fx}{c:Code}{k:Kt}{e:Env}{Ls Ms:List Chunk}{ops:List Oper}{r:aA}{x:Exit}
theorem WS.id (h:WS X f c k e Ls):WS X f c k e Ls:=h
theorem WE.id (h:WE X f x k e Ls):WE X f x k e Ls:=h
theorem WO.id (h:WO X f ops k Ms r e Ls):WO X f ops k Ms r e Ls:=h
def XT:List Nat->aA
 | []=>.nil
 | x :: l=>.cons (x / 4,x % 4) (XT l)
theorem aq {p:Prop}(h:p:=by repeat (first | exact HN | refine uy rfl rfl ?_ | refine uy rfl (by first | exact congrArg _ oZ | exact congrArg _ (congrArg _ oZ)) ?_)):p:=h
theorem aps {p:Prop}(h:p:=by repeat (first | exact Ap.nil | apply Ap.cons)):p:=h
theorem acV {p:Prop}(h:p:=by repeat (first | exact Sk.nil | (apply Sk.cons;exact rfl))):p:=h
theorem rrs {p:Prop}(h:p:=by repeat (first | exact RR.nil | (apply RR.tmp;exact rfl) | (apply RR.aay;exact rfl;exact mem;exact rfl;exact rfl) | (apply RR.aaz;exact rfl;exact mem;exact rfl;exact lens) | (apply RR.one;exact rfl;exact mem;exact rfl;exact rfl))):p:=h
structure LP {ι:Type}(l:List Nat)(V:ι->Env)(L:ι->List Chunk)(φ:ι->Prop)(μ:ι->Nat)(x:ι):Prop where
 h:φ x
theorem WS.aaQ {ι:Type}{l:List Nat}{V:ι->Env}{L:ι->List Chunk}{φ:ι->Prop}{μ:ι->Nat}{x:ι}{Z:Env}{Rs:List Chunk}(p:LP l V L φ μ x)(hZ:Sk e l Z)(hV:JA e (V x))(hL:gH Ls (L x) Rs)
  (body:∀x,φ x->WB X f c (.MV (fun e' bg=>∃y,φ y/\μ y<μ x/\JA e' (V y++Z)/\∃Qs,gH bg (L y++Rs) Qs) k) (V x) Z (L x) Rs):WS X f (.loop c) k e Ls:=.loop l V L φ μ x hZ p.h hV hL body
def Ng:Op->Bool
 | .move _ | .assign _ | .pick .. | .load .. | .nilCheck _ | .binOp .. | .unOp .. | .fieldAddr .. | .field .. | .indexAddr .. | .index .. | .extract .. | .makeFunc .. | .lookup .. | .slice .. | .build .. => true
 | .call ⟨.builtin .len,_,_⟩ | .call ⟨.builtin .cap,_,_⟩ | .call ⟨.builtin .min,_,_⟩ | .call ⟨.builtin .max,_,_⟩=>true
 | _=>false
def BJ:List Oper->Bool
 | []=>true
 | [o]=>bY o
 | o :: l=>Ng o.op&&BJ l
def HQ:List Oper->Bool
 | []=>true
 | o :: l=>Ng o.op&&HQ l
def Nh:Nat->Nat->aA
 | _,0=>.nil
 | i,m+1=>.cons (i,0) (Nh (i+1) m)
def Ni:Nat->Nat->aA
 | _,0=>.nil
 | i,1=>.cons (i,3) .nil
 | i,m+2=>.cons (i,0) (Ni (i+1) (m+1))
theorem HR {o:Oper}(h:Ng o.op=true):bY o=true:=by
 unfold bY
 split
 ·rename_i hc;rw [hc] at h;cases h
 ·rfl
theorem BK:∀ {l:List Oper},HQ l=true->l.all bY=true
 | [],_=>rfl
 | o :: l,h=>by
  simp only [HQ,Bool.and_eq_true] at h
  rw [List.all_cons,HR h.1,BK h.2];rfl
theorem BL:∀ {l:List Oper},BJ l=true->l.all bY=true
 | [],_=>rfl
 | [o],h=>by simp only [BJ] at h;simp [h]
 | o :: p :: l,h=>by
  simp only [BJ,Bool.and_eq_true] at h
  rw [List.all_cons,HR h.1,BL h.2];rfl
theorem WS.XU {id:Nat}(hm:X.P.follows .mixedOrders=true)(hB:(HQ ops&&kX ops.toArray (Nh 0 ops.length))=true)(h:WO X f ops k Ls (Nh 0 ops.length) e Ls):WS X f (.region id ops.toArray true) k e Ls:=by
 rw [Bool.and_eq_true] at hB
 exact .drawn hm _ (BK hB.1) hB.2 Ls (fun _ h=>h) h
theorem WS.XV {id:Nat}(hm:X.P.follows .mixedOrders=true)(hB:(BJ ops&&kX ops.toArray (Ni 0 ops.length))=true)(h:WO X f ops k Ls (Ni 0 ops.length) e Ls):WS X f (.region id ops.toArray true) k e Ls:=by
 rw [Bool.and_eq_true] at hB
 exact .drawn hm _ (BL hB.1) hB.2 Ls (fun _ h=>h) h
structure OP (o:List Nat):Prop
theorem WS.XW {o:List Nat}(_:OP o){id:Nat}(hm:X.P.follows .mixedOrders=true)(hB:(ops.all bY&&kX ops.toArray (XT o))=true)(h:WO X f ops k Ls (XT o) e Ls):WS X f (.region id ops.toArray true) k e Ls:=by
 rw [Bool.and_eq_true] at hB
 exact .drawn hm (XT o) hB.1 hB.2 Ls (fun _ h=>h) h
structure OQ (o:aA):Prop
theorem WS.XX {o:aA}(_:OQ o){id:Nat}(hm:X.P.follows .mixedOrders=true)(hB:(ops.all bY&&kX ops.toArray o)=true)(h:WO X f ops k Ls o e Ls):WS X f (.region id ops.toArray true) k e Ls:=by
 rw [Bool.and_eq_true] at hB
 exact .drawn hm o hB.1 hB.2 Ls (fun _ h=>h) h
structure OM (Ms:List Chunk)(o:List Nat):Prop
theorem WS.XY {Ms:List Chunk}{o:List Nat}(_:OM Ms o){id:Nat}(hm:X.P.follows .mixedOrders=true)(hB:(ops.all bY&&kX ops.toArray (XT o))=true)(hM:∀C∈Ms,C∈Ls)(h:WO X f ops k Ms (XT o) e Ls):WS X f (.region id ops.toArray true) k e Ls:=by
 rw [Bool.and_eq_true] at hB
 exact .drawn hm (XT o) hB.1 hB.2 Ms hM h
theorem fin {cp:Value->List Chunk->Prop}{u:Value}{Bs Rs:List Chunk}(h:cp u Bs)(s:gH Ls Bs Rs):qV cp u Ls:=⟨_,_,s,h⟩
end
theorem st {g:FuncId}{args:List Value}{As:List Chunk}{cp:Value->List Chunk->Prop}{fn:Func}{c:Code}{n:Nat}{e:Env}(hf:Tryz.prog.funcs[g]? = some fn)(h:∀w0,WS ⟨Tryz.prog,JE,w0,As,none,[]⟩ ⟨fn,n,qV cp⟩ c .top e As)
 (hb:fn.body=some c:=by exact rfl) (hn:fn.ntmps=n:=by exact rfl) (hs:Nat.ble args.length n=true:=by exact rfl) (he:num 0 args=e:=by exact XS):Ct g args As cp:=LJ.mk (T:=JE) hf hb hn hs he h
theorem qV.id {cp:Value->List Chunk->Prop}{u:Value}{Ls:List Chunk}(h:qV cp u Ls):qV cp u Ls:=h
structure gE (H:Prop):Prop where
 out:H
theorem go {G H:Prop}(k:H)(h:gE H->G:=by
 intro kk
 repeat (first
  | (refine WO.id ?_;first
   | refine WO.run aB rfl ?_
   | refine WO.nil ?_
   | refine WO.one aB rfl rfl ?_
   | (apply WO.not;exact rfl;exact rfl;exact rfl;exact rfl;exact rfl;exact keeps)
   | (refine WO.dec rfl ?_;first
    | (apply WD.load;exact rfl;exact rfl;exact aB;exact rfl;exact mem;exact rfl)
    | (apply WD.aau;exact rfl;exact rfl;exact aB;exact rfl;assumption;exact mem;exact cells)
    | (apply WD.load;exact rfl;exact rfl;exact aB;exact rfl;exact mem;exact cells)
    | (apply WD.ari;exact rfl;exact rfl;exact rfl;exact rfl;exact rfl;exact aaP;exact arith)
    | (apply WD.aav;exact rfl;exact rfl;exact aB;exact rfl;exact mem;exact rfl)
    | (apply WD.aaw;exact rfl;exact rfl;exact aB;exact rfl;exact mem;exact lens)
    | (apply WD.aaE;exact rfl;exact rfl;exact aB;exact rfl;exact mem;assumption;(first | exact rfl | exact lens))
    | (apply WD.Xy;exact rfl;exact rfl;exact aB;exact rfl;assumption;exact mem;assumption;(first | exact rfl | exact lens))
    | (apply WD.Xx;exact rfl;exact rfl;exact aB;exact rfl;assumption;exact mem;exact lens)
    | (apply WD.ixA;exact rfl;exact rfl;exact rfl;exact aB;exact rfl;exact mh;exact om;exact cells)
    | (apply WD.s2a;exact rfl;exact rfl;exact aB;exact rfl;exact om)
    | (apply WD.str;exact rfl;exact rfl;exact aB;exact rfl;exact rfl;exact rfl;assumption;exact mem)
    | (apply WD.mark;exact rfl;exact rfl;exact aB;exact rfl;exact rfl;exact pick;exact keeps)
    | (apply WD.eqA;exact rfl;exact rfl;exact rfl;exact aB;exact rfl;show Jv Tryz.prog _=true;decide +kernel)
    | (apply WD.neA;exact rfl;exact rfl;exact rfl;exact aB;exact rfl;show Jv Tryz.prog _=true;decide +kernel)
    | (apply WD.VL;exact rfl;exact rfl;exact arith)
    | (apply WD.idx;exact rfl;exact rfl;exact rfl;exact aB;exact rfl;exact mh;exact om;exact place)
    | (apply WD.acr;exact rfl;exact rfl;exact rfl;exact aB;exact rfl;exact mh;exact om;exact place)
    | (apply WD.acs;exact rfl;exact rfl;exact aB;exact rfl;exact place)
    | (apply WD.lkY;exact rfl;exact rfl;exact rfl;exact aB;exact rfl;assumption;exact mem;(first | assumption | exact rfl))
    | (apply WD.lkN;exact rfl;exact rfl;exact rfl;exact aB;exact rfl;exact rfl;assumption;exact mem;(first | assumption | exact rfl))
    | (apply WD.eqP;exact rfl;exact rfl;exact rfl;exact aB;exact rfl;assumption;exact mem)
    | (apply WD.neP;exact rfl;exact rfl;exact rfl;exact aB;exact rfl;assumption;exact mem)
    | (apply WD.sl0;exact rfl;exact rfl;exact aB;exact rfl;exact LL;exact LL;exact LL;exact rfl)
    | (apply WD.mkB;exact rfl;exact rfl;exact rfl)
    | (apply WD.slP;exact rfl;exact rfl;exact aB;exact rfl;exact rfl)
    | (apply WD.acL;exact rfl;exact rfl;exact aB;exact rfl;assumption;exact mem)
    | (apply WD.conv;exact rfl;exact rfl;exact aB;exact rfl;exact rfl;exact arith)
    | (apply WD.XB;exact rfl;exact rfl;exact rfl;exact rfl;exact aB;exact rfl;exact pick;exact rfl;exact keeps)
    | (apply WD.XC;exact rfl;exact rfl;exact rfl;exact rfl;exact aB;exact rfl;exact pick;exact rfl;exact keeps)
    | (apply WD.store;exact rfl;exact rfl;exact rfl;exact rfl;exact aB;exact rfl;exact pick;exact lens;exact keeps)
    | (apply WD.zg;exact rfl;exact rfl;exact rfl;exact rfl;exact aB;exact rfl;exact pick;exact om;exact rfl;exact keeps)
    | (apply WD.XD;exact rfl;exact rfl;exact rfl;exact aB;exact rfl;exact pick;exact aaN;exact lens;exact lens;exact keeps)
    | (apply WD.shl;exact rfl;exact rfl;exact rfl;exact VV;exact arith)
    | (apply WD.shr;exact rfl;exact rfl;exact rfl;exact VV;exact arith)
    | (apply WD.neg;exact rfl;exact rfl;exact arith))
   | (apply MX;exact rfl;exact rfl;exact rfl;exact rfl;exact rfl;first | exact decide_eq_true oZ | exact decide_eq_false oZ | exact aaR oZ | exact aaS oZ | exact XQ oZ | exact XR oZ | exact XZ (decide_eq_false oZ) | exact Su (decide_eq_true oZ)))
  | (refine WS.id ?_;first
   | refine WS.seq ?_
   | (apply WS.region;exact rfl)
   | (apply WS.XU;exact rfl;decide +kernel)
   | (apply WS.XV;exact rfl;decide +kernel)
   | refine WS.skip ?_
   | refine WS.fN ?_
   | (apply WS.yes;exact rfl;first | exact rfl | exact decide_eq_true oZ | exact aaR oZ | exact XQ oZ | exact XZ (decide_eq_false oZ) | exact XZ (aaS oZ) | exact XZ (XR oZ))
   | (apply WS.no;exact rfl;first | exact rfl | exact decide_eq_false oZ | exact aaS oZ | exact XR oZ | exact Su (decide_eq_true oZ) | exact Su (aaR oZ) | exact Su (XQ oZ))
   | refine WS.exit ?_
   | refine WS.ret ?_)
  | (refine WE.id ?_;first
   | refine WE.seq ?_
   | refine WE.fN ?_
   | refine WE.exit rfl ?_
   | refine WE.acq ?_
   | (apply WE.res;exact rfl;exact Sv)
   | (apply WE.acC;exact aB;exact rrs;exact Sv))
  | refine WK.mk keeps ?_
  | (apply WC.on;exact aps;exact keeps)
  | (apply WB.on;exact aps;exact aps))
 try change qV _ _ _
 exact kk.out):G:=h ⟨k⟩
theorem gz {G H:Prop}(k:H)(h:gE H->G:=by intro kk;refine go ?_;refine qV.id ?_;exact kk.out):G:=h ⟨k⟩
theorem ga {G H:Prop}(k:H)(h:gE H->G:=by
 intro kk;refine go ?_;refine WO.dec rfl ?_
 first
 | (apply WD.box;exact rfl;exact rfl;exact rfl;exact keeps;exact kk.out)
 | (apply WD.acu;exact rfl;exact rfl;exact keeps;exact kk.out)
 | (apply WD.alloc;exact rfl;exact aB;exact rfl;exact keeps;exact kk.out)):G:=h ⟨k⟩
theorem gc {G H:Prop}{g:FuncId}{args:List Value}{As:List Chunk}{cp:Value->List Chunk->Prop}(s:Ct g args As cp)(k:H)(h:Ct g args As cp->gE H->G:=by
 intro ss kk;refine go ?_;refine WO.dec rfl ?_
 apply WD.call (s:=ss);(case hκ=>exact rfl);(case ha=>exact rfl);(case hT=>exact aB);(case hf=>exact rfl);(case hv=>(first | exact rfl | (simp;done) | (congr;done)));(case hs=>exact aa);exact kk.out):G:=h s ⟨k⟩
theorem ge {G H:Prop}(k:H)(h:gE H->G:=by
 intro kk;refine go ?_;refine WO.dec rfl ?_
 apply WD.enter;exact rfl;exact rfl;exact aB;exact rfl;exact rfl;exact rfl;exact rfl;exact XS;exact go kk.out):G:=h ⟨k⟩
theorem gs {G H:Prop}(k:H)(h:gE H->G:=by
 intro kk;(try first | refine WK.mk keeps ?_ | (apply WC.on;exact aps;exact keeps) | (apply WB.on;exact aps;exact aps))
 first | (apply WO.spl;exact XN;exact kk.out) | (apply WS.spl;exact XN;exact kk.out) | (apply WE.spl;exact XN;exact kk.out)):G:=h ⟨k⟩
theorem gm {G H:Prop}(k:H)(h:gE H->G:=by
 intro kk;refine go ?_;refine WO.dec rfl ?_
 first
 | (apply WD.make;exact rfl;exact rfl;exact rfl;exact aB;exact rfl;exact mh;exact mh;exact szs;exact keeps;exact kk.out)
 | (apply WD.aaA;exact rfl;exact rfl;exact rfl;exact aB;exact rfl;exact mh;exact mh;exact rfl;exact szs;exact keeps;exact kk.out)
 | (apply WD.acI;exact rfl;exact rfl;exact aB;exact rfl;exact rfl;exact lens;exact keeps;exact kk.out)
 | (apply WD.bsl;exact rfl;exact rfl;exact aB;exact rfl;exact rfl;exact rfl;exact keeps;exact kk.out)
 | (apply WD.acJ;exact rfl;exact aB;exact rfl;exact keeps;exact kk.out)):G:=h ⟨k⟩
theorem gp {G H:Prop}(k:H)(h:gE H->G:=by
 intro kk;refine go ?_;refine WO.dec rfl ?_
 first
 | (apply WD.app;exact rfl;exact rfl;exact rfl;exact aB;exact rfl;assumption;exact pick;exact Ss;exact szs;exact keeps;exact kk.out)
 | (apply WD.acF;exact rfl;exact rfl;exact rfl;exact aB;exact rfl;exact Ss;exact szs;exact keeps;exact kk.out)):G:=h ⟨k⟩
theorem gpi {G H:Prop}(k:H)(h:gE H->G:=by
 intro kk;refine go ?_;refine WO.dec rfl ?_
 apply WD.acK;exact rfl;exact rfl;exact rfl;exact aB;exact rfl;exact pick;exact Ss;exact om;exact lens;(first | assumption | exact rfl);exact keeps;exact kk.out):G:=h ⟨k⟩
theorem gu {G H:Prop}(k:H)(h:gE H->G:=by
 intro kk;refine go ?_;refine WO.dec rfl ?_
 apply WD.acG;exact rfl;exact rfl;exact rfl;exact rfl;exact aB;exact rfl;assumption;exact pick;exact keeps;exact kk.out):G:=h ⟨k⟩
theorem gx {G H:Prop}(k:H)(h:gE H->G:=by
 intro kk;refine go ?_;refine WO.dec rfl ?_
 first
 | (apply WD.VT;exact rfl;exact rfl;exact rfl;exact aB;exact rfl;assumption;assumption;exact pick;exact keeps;exact kk.out)
 | (apply WD.acH;exact rfl;exact rfl;exact rfl;exact aB;exact rfl;assumption;assumption;exact pick;exact keeps;exact kk.out)):G:=h ⟨k⟩
theorem gr {G H:Prop}(k:H)(h:gE H->G:=by
 intro kk;refine go ?_;refine WO.dec rfl ?_
 apply WD.XI;exact rfl;exact rfl;exact aB;exact rfl;assumption;exact pick;exact keeps;exact kk.out):G:=h ⟨k⟩
theorem gy {G H:Prop}(k:H)(h:gE H->G:=by
 intro kk;refine go ?_;refine WO.dec rfl ?_
 apply WD.aaB;exact rfl;exact rfl;exact rfl;exact aB;exact rfl;assumption;exact mem;exact rfl;exact pick;exact lens;(first | assumption | exact rfl);exact keeps;exact kk.out):G:=h ⟨k⟩
theorem gw {G H:Prop}(k:H)(h:gE H->G:=by
 intro kk;refine go ?_;refine WO.dec rfl ?_
 apply WD.sl;exact rfl;exact rfl;exact aB;exact rfl;exact LL;exact LL;exact LL;exact rfl;exact lens;assumption;(first | assumption | exact rfl);(first | assumption | exact rfl);exact kk.out):G:=h ⟨k⟩
theorem gv {G H:Prop}(k:H)(h:gE H->G:=by
 intro kk;refine go ?_;refine WO.dec rfl ?_
 apply WD.slA;exact rfl;exact rfl;exact aB;exact rfl;exact LL;exact LL;exact LL;exact rfl;exact lens;exact place;(first | assumption | exact rfl);exact kk.out):G:=h ⟨k⟩
theorem gi {G H1 H2:Prop}(k1:H1)(k2:H2)(h:gE H1->gE H2->G:=by intro k1 k2;refine go ?_;refine WS.cond rfl ?_ ?_;exact k1.out;exact k2.out):G:=h ⟨k1⟩ ⟨k2⟩
theorem gg {G H1 H2:Prop}(k1:H1)(k2:H2)(h:gE H1->gE H2->G:=by intro k1 k2;refine go ?_;refine BG rfl rfl rfl rfl rfl ?_ ?_;exact k1.out;exact k2.out):G:=h ⟨k1⟩ ⟨k2⟩
theorem gl {G H:Prop}{ι:Type}(l:List Nat)(V:ι->Env)(L:ι->List Chunk)(φ:ι->Prop)(μ:ι->Nat)(x:ι)(hx:φ x)(k:H)(h:LP l V L φ μ x->gE H->G:=by
 intro lp kk;refine go ?_
 apply WS.aaQ lp;exact acV;exact aq;exact aa;exact kk.out):G:=h ⟨hx⟩ ⟨k⟩
theorem gd {G H:Prop}(o:List Nat)(k:H)(h:OP o->gE H->G:=by
 intro oo kk;refine go ?_;refine WS.XW oo ?_ ?_ ?_;exact rfl;kernel_rfl;exact kk.out):G:=h ⟨⟩ ⟨k⟩
theorem qC {G H:Prop}(Ms:List Chunk)(o:List Nat)(k:H)(h:OM Ms o->gE H->G:=by
 intro oo kk;refine go ?_;refine WS.XY oo ?_ ?_ ?_ ?_;exact rfl;kernel_rfl;(repeat (first | exact Nd | (apply Nf;exact mem)));exact kk.out):G:=h ⟨⟩ ⟨k⟩
theorem gdo {G H:Prop}(o:aA)(k:H)(h:OQ o->gE H->G:=by
 intro oo kk;refine go ?_;refine WS.XX oo ?_ ?_ ?_;exact rfl;kernel_rfl;exact kk.out):G:=h ⟨⟩ ⟨k⟩
theorem gk {G H1 H2:Prop}(k1:H1)(k2:H2)(h:gE H1->gE H2->G:=by intro k1 k2;refine go ?_;refine WO.fork ?_ ?_;exact k1.out;exact k2.out):G:=h ⟨k1⟩ ⟨k2⟩
theorem gn {G H:Prop}(k:H)(h:gE H->G:=by intro kk;refine go ?_;refine WE.MV ?_;exact kk.out):G:=h ⟨k⟩
end Go.Proofs.YtcfioaeamfappaaGreatDoor
