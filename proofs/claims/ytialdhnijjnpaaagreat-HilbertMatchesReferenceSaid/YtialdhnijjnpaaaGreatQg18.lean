/- Part 18 of the proof of hilbertMatchesReference_holds. No condition. -/
import Derived.Test.YtialdhnijjnpaaaGreatQg2
import Derived.Test.YtialdhnijjnpaaaGreatQg17
set_option linter.unusedSimpArgs false
set_option linter.unusedVariables false
set_option maxRecDepth 100000
namespace Go.Proofs.YtialdhnijjnpaaaGreat
open Go.RowKit
theorem Nk:∀{l:List Ow} {i:Nat} {x:Ow},i<l.length->Do l i x=some (l.set i x)
 | [],_,_,h=>absurd h (Nat.not_lt_zero _)
 | _::_,0,_,_=>rfl
 | o::l,i+1,x,h=>by
  unfold Do
  rw [Nk (l:=l) (i:=i) (by simpa using h)]
  rfl
theorem Wy{l:List Nat}(h:l.Nodup){i g:Nat}(hg:g∉l\/l[i]? = some g):(l.set i g).Nodup:=by
 rcases hg with hg | hg
 .induction l generalizing i with
  | nil=>exact h
  | cons a l ih=>
   obtain ⟨h1,h2⟩:=List.nodup_cons.1 h
   have hgl:g∉l:=λe=>hg (List.mem_cons_of_mem _ e)
   cases i with
   | zero=>exact List.nodup_cons.2 ⟨hgl,h2⟩
   | succ i=>
    refine List.nodup_cons.2 ⟨λhm=>?_,ih h2 hgl⟩
    rcases List.mem_or_eq_of_mem_set hm with hm | e
    .exact h1 hm
    .exact hg (e▸List.mem_cons_self)
 .obtain ⟨h1,h2⟩:=List.getElem?_eq_some_iff.1 hg
  rw [<-h2,List.set_getElem_self]
  exact h
def BN(L:List HE)(Z:List Nat):OD where
 rel s v:=(By L).rel s v/\∀(i:Nat) (e:HE) (z:Nat),L[i]? = some e->Z[i]? = some z->∃(cs:Array Value) (T:TypeId) (fz:Nat×Nat),s.w.heap[e.b]? = some (.cells cs T fz)/\cs.size=z
 blk _ _ b:=∃e,e∈L/\e.b=b
 lt:=λ⟨h,_⟩ hb=>(By L).lt h hb
 keep:=λ⟨h,h'⟩ hc hb=>⟨⟨((By L).keep h hc hb).1,λi e z hi hz=>by
  obtain ⟨cs,T,fz,h1,h2⟩:=h' i e z hi hz
  exact ⟨cs,T,fz,(hb e.b ⟨e,List.mem_of_getElem? hi,rfl⟩).1.trans h1,h2⟩⟩,λ_ hx=>hx⟩
theorem Ex{L:List HE}{Z:List Nat}{s:GS}{v:Value}(h:(BN L Z).rel s v):((∀e∈L,HB s e)/\(L.map (·.b)).Nodup)/\∀(i:Nat) (e:HE) (z:Nat),L[i]? = some e->Z[i]? = some z->∃(cs:Array Value) (T:TypeId) (fz:Nat×Nat),s.w.heap[e.b]? = some (.cells cs T fz)/\cs.size=z:=h
theorem Quiet.hp{P:Program}{o:Oper}{arg:Operand->AV}{r:AV}{hp hp2:List Ow}(hl:hp2.length=hp.length)(h:∀base ρ s,HpOk base ρ s hp->HpOk base ρ s hp2)(hq:Quiet P hp2 o arg r):Quiet P hp o arg r:=⟨λbase s ρ ev h1 h2 h3 h4=>by
 have:=hq.run base s ρ ev h1 h2 (h base ρ s h3)
 rw [hl] at this
 exact this h4⟩
theorem Vt{hp:List Ow}{id:Nat}{L:List HE}{Z:List Nat}(hh:hp[id]? = some (.obj (BN L Z)))(base:Nat)(ρ:Nat->Value)(s:GS)(h:HpOk base ρ s hp):HpOk base ρ s (hp.set id (.obj (By L))):=λi o hi=>by
 rw [List.length_set]
 rw [List.getElem?_set] at hi
 split at hi
 .rename_i e
  split at hi
  .cases hi
   subst e
   exact (Ex (h _ _ hh)).1
  .cases hi
 .exact h i o hi
theorem Lt{hp:List Ow}{id:Nat}{o o':Ow}(hh:hp[id]? = some o):(hp.set id o')[id]? = some o':=by
 rw [List.getElem?_set,if_pos rfl,if_pos (List.getElem?_eq_some_iff.1 hh).1]
section
variable {P:Program} {hp:List Ow} {arg:Operand->AV} {dd:Option Tmp} {ty:TypeId} {ps:String} {af:Array Edge} {gd:Option (Nat×Bool)}
theorem A0y{x:Operand}{t:TypeId}{d:TypeDesc}{n b off:Nat}{z:Value}{L:List HE}{Z:List Nat}{e:HE}{es:List D}(id i:Nat)(hx:arg x = .d (pX e.b off))(hh:hp[id]? = some (.obj (BN L Z)))(hi:L[i]? = some e)(ht:Tab P t d n b z)(hd:Eb d=true)(hc:PartAt e.ds off n es):Quiet P hp ⟨dd,.load t x,ty,ps,af,gd⟩ arg (.d (Bb es)):=
 Quiet.hp (List.length_set ..) (Vt hh) (NV rfl hx (Lt hh) hi ht hd hc)
theorem HN{x:Operand}{t:TypeId}{d:TypeDesc}{n b off:Nat}{z:Value}{L:List HE}{Z:List Nat}{e:HE}{u:D}(id i:Nat)(hx:arg x = .d (pX e.b off))(hh:hp[id]? = some (.obj (BN L Z)))(hi:L[i]? = some e)(ht:Tab P t d n b z)(hd:Eb d=false)(hc:CellAt e.ds off u):Quiet P hp ⟨dd,.load t x,ty,ps,af,gd⟩ arg (.d u):=
 Quiet.hp (List.length_set ..) (Vt hh) (Mr rfl hx (Lt hh) hi ht hd hc)
def ArgsZ(hp:List Ow)(L:List HE)(arg:Operand->AV):List Operand->List D->Prop
 | [],[]=>True
 | x::l,d::ds=>(∃y,Ed hp (arg x)=some y/\∀s:GS,(∀e∈L,Hset s e)->∀v,y.rel s v->d.rel s v)/\ArgsZ hp L arg l ds
 | _,_=>False
theorem ArgsZ.nil{L:List HE}:ArgsZ hp L arg [] []:=trivial
theorem ArgsZ.le{L:List HE}{x:Operand}{l:List Operand}{d y:D}{ds:List D}(h:Ed hp (arg x)=some y)(hl:D.le y d)(hr:ArgsZ hp L arg l ds):ArgsZ hp L arg (x::l) (d::ds):=⟨⟨y,h,λs _ v=>hl s v⟩,hr⟩
theorem ArgsZ.set{L:List HE}{x:Operand}{l:List Operand}{d y:D}{ds:List D}(h:Ed hp (arg x)=some y)(hl:∀s:GS,(∀e∈L,Hset s e)->∀v,y.rel s v->d.rel s v)(hr:ArgsZ hp L arg l ds):ArgsZ hp L arg (x::l) (d::ds):=⟨⟨y,h,hl⟩,hr⟩
theorem ArgsZ.rel{base:Nat}{ρ:Nat->Value}{s s':GS}{L:List HE}{ev:Operand->Value}(hh:HpOk base ρ s hp)(hc:GS.Chg s s')(hs:∀e∈L,Hset s' e):∀{l:List Operand} {ds:List D},ArgsZ hp L arg l ds->(∀x∈l,AVr hp.length ρ s (arg x) (ev x))->l.length=ds.length/\∀k,k<ds.length->(BG ds k).rel s' ((l.map ev).getD k undef)
 | [],[],_,_=>⟨rfl,λk hk=>absurd hk (by simp)⟩
 | [],_::_,h,_=>h.elim
 | _::_,[],h,_=>h.elim
 | x::l,d::ds,⟨⟨y,h1,h2⟩,h3⟩,h=>by
  obtain ⟨i1,i2⟩:=ArgsZ.rel hh hc hs h3 λx hx=>h x (List.mem_cons_of_mem _ hx)
  refine ⟨by simpa using i1,λk hk=>?_⟩
  cases k with
  | zero=>exact h2 s' hs _ (y.st (BW hh (h x List.mem_cons_self) h1) hc)
  | succ k=>exact i2 k (by simpa using hk)
end
def D.free(X:List TypeId)(r:D):Prop:=∀(s:GS) (S':Nat->Nat->Prop) (v:Value),(∀b k,s.S b k->S' b k\/∃cs T fz,s.w.heap[b]? = some (.cells cs T fz)/\T∈X)->r.rel s v->r.rel ⟨S',s.tag,s.w⟩ v
theorem TZ{X:List TypeId}{v:Value}:(ex v).free X:=λ_ _ _ _ h=>h
def allFree(X:List TypeId)(ds:List D):Prop:=∀k,k<ds.length->(BG ds k).free X
theorem allFree.nil{X:List TypeId}:allFree X []:=λk hk=>absurd hk (Nat.not_lt_zero k)
theorem allFree.cons{X:List TypeId}{d:D}{ds:List D}(h:d.free X)(h':allFree X ds):allFree X (d::ds):=λk hk=>by
 cases k with
 | zero=>exact h
 | succ k=>exact h' k (by simpa using hk)
theorem A2k{X:List TypeId}{α:Type}{p:α->Prop}{f:α->D}(h:∀x,(f x).free X):(Gc p f).free X:=λs S' v hS ⟨x,h1,h2⟩=>⟨x,h1,h x s S' v hS h2⟩
theorem RP{P:Program}{hp:List Ow}{o:Oper}{arg:Operand->AV}{f:Operand}{args:List Operand}{tys:Array TypeId}{fid:FuncId}{ds:List D}{r:D}{L:List HE}{Z:List Nat}(X:List TypeId)(id:Nat)(hop:o.op = .call { callee:=.value f,args:=args.toArray,argTypes:=tys })(hf:arg f = .d (ex (.func (.func fid) #[] #[])))(hc:Abs P fid ds r)(hh:hp[id]? = some (.obj (BN L Z)))(ha:ArgsZ hp L arg args ds)(hX:∀e∈L,e.T∈X)(hr:r.free X):Quiet P hp o arg (.d r):=by
 refine ⟨λbase s ρ ev hok hbs hhp h=>?_⟩
 have h1:=h f (by rw [hop];simp [Op.operands,Call.operands])
 rw [hf] at h1
 have e1:ev f = .func (.func fid) #[] #[]:=h1
 obtain ⟨⟨g1,_⟩,_⟩:=Ex (hhp id _ hh)
 let s2:GS:=⟨λb k=>s.S b k\/∃e,e∈L/\e.b=b,s.tag,s.w⟩
 have hc2:GS.Chg s s2:=⟨Nat.le_refl _,λ_ _ hk=>.inl hk,λb cs T fz hb=>⟨cs,fz,hb,λ_ _=>rfl⟩⟩
 have hok2:s2.Ok:=⟨λb k hk=>hk.elim (hok.lt b k) λ⟨e,he,hb⟩=>hb▸(g1 e he).lt,λb k hty=>.inl (hok.safe b k hty)⟩
 have hset:∀e∈L,Hset s2 e:=λe he=>by
  obtain ⟨hT,hS,cs,h2,h3,h4⟩:=g1 e he
  exact ⟨cs,h2,λk hk=>⟨.inr ⟨e,he,rfl⟩,by
   obtain ⟨u,w1,w2,w3⟩:=h4 k hk
   exact ⟨u,w1,w2,(BG e.ds k).st w3 hc2⟩⟩⟩
 obtain ⟨h2,h3⟩:=ArgsZ.rel (ev:=ev) hhp hc2 hset ha λx hx=>h x (by rw [hop];simp [Op.operands,Call.operands,hx])
 have h4:=hc.2 s2 (args.map ev) hok2 (by simpa using h2) h3
 unfold RegG.OpStep
 have hrun:(execOp ev o).run P s.w = .ok (.enter fid (args.map ev).toArray) s.w:=by
  simp [execOp,hop,resolve,e1,Deferred.ofValue,invoke,hc.1]
 rw [hrun]
 refine h4.mono λe w' ⟨v,he,s',hs,hl,hr'⟩=>?_
 have hblk:∀e∈L,∃cs,s'.w.heap[e.b]? = some (.cells cs e.T (0,0))/\e.T≠136:=λe he=>by
  obtain ⟨hT,_,cs,w2,_⟩:=g1 e he
  exact ⟨cs,(hl.ext.block (AG w2)).trans w2,hT⟩
 let s3:GS:=⟨λb k=>s'.S b k/\¬∃e,e∈L/\e.b=b,s'.tag,s'.w⟩
 refine ⟨v,he,s3,hs,⟨hl.ext,λb k hk=>⟨hl.up b k (.inl hk),λ⟨e,he,hb⟩=>(g1 e he).2.1 k (hb▸hk)⟩,λb k hb hk=>(hl.old b k hb hk.1).elim (λh=>h) λh=>absurd h hk.2,hl.tag,λ_=>⟨λb k hk=>(hl.ok hok2).lt b k hk.1,λb k hty=>⟨(hl.ok hok2).safe b k hty,λ⟨e,he,hb⟩=>?_⟩⟩⟩,hr s' _ v (λb k hk=>?_) hr'⟩
 .obtain ⟨cs,w1,w2⟩:=hblk e he
  obtain ⟨cs',fz,w3⟩:=hty
  have w3:s'.w.heap[b]? = _:=w3
  rw [<-hb,w1] at w3
  exact w2 (Obj.cells.inj (Option.some.inj w3)).2.1
 .by_cases hb:∃e,e∈L/\e.b=b
  .obtain ⟨e,he,rfl⟩:=hb
   obtain ⟨cs,w1,_⟩:=hblk e he
   exact .inr ⟨cs,e.T,_,w1,hX e he⟩
  .exact .inl ⟨hk,hb⟩
theorem A0D{P:Program}{hp:List Ow}{arg:Operand->AV}{dd:Option Tmp}{ty:TypeId}{ps:String}{af:Array Edge}{gd:Option (Nat×Bool)}{f:Operand}{args:List Operand}{tys:Array TypeId}{fid:FuncId}{ds:List D}{r:D}{L:List HE}{Z:List Nat}(X:List TypeId)(id:Nat)(hf:arg f = .d (ex (.func (.func fid) #[] #[])))(hc:Abs P fid ds r)(hh:hp[id]? = some (.obj (BN L Z)))(ha:ArgsZ hp L arg args ds)(hX:∀e∈L,e.T∈X)(hr:r.free X):Quiet P hp ⟨dd,.call { callee:=.value f,args:=args.toArray,argTypes:=tys },ty,ps,af,gd⟩ arg (.d r):=RP X id rfl hf hc hh ha hX hr
section
variable {P:Program} {s0:An} {n:Nat} {ops:Array Oper} {Q:Exit->AS->Prop} {rest:List Oper} {fr:List (Nat×AV)} {hp hp':List Ow} {ty:TypeId} {ps:String} {af:Array Edge}
theorem StI.swap{s:GS}{ρ:Nat->Value}{act:Act}(hst:StI s0 n ⟨fr,hp⟩ act s ρ){id:Nat}{o o':Ow}(hh:hp[id]? = some o)(hrel:OwR 0 hp.length ρ s id o')(hblk:∀b,OwB s (ρ id) o' b->OwB s (ρ id) o b):StI s0 n ⟨fr,hp.set id o'⟩ act s ρ:=by
 have:=hst.upd (s':=s) (ρ':=ρ) (f:=λx=>x) (o':=o') hst.le hst.ok (GS.Chg.refl s) hh (λ_ _ _=>⟨rfl,λ_=>Iff.rfl⟩) (λ_ _=>rfl) hrel (λb hb=>.inl (hblk b hb)) λ_ _ h=>h
 rw [En,De] at this
 exact this
theorem LQ{id i:Nat}{L:List HE}{Z:List Nat}{e:HE}{s:GS}{ρ:Nat->Value}{act:Act}(hst:StI s0 n ⟨fr,hp⟩ act s ρ)(hid:hp[id]? = some (.obj (BN L Z)))(hi:L[i]? = some e){W:World}{cs':Array Value}{ds':List D}
  (hos:W.os=s.w.os) (htp:W.tape=s.w.tape) (hop:W.output=s.w.output) (hsz:W.heap.size=s.w.heap.size) (hfar:∀b,b≠e.b->W.heap[b]? = s.w.heap[b]?) (hnew:W.heap[e.b]? = some (.cells cs' e.T (0,0))) (hcz:∀cs,s.w.heap[e.b]? = some (.cells cs e.T (0,0))->cs'.size=cs.size) (hl:ds'.length<=cs'.size)
  (hds:∀k,k<ds'.length->∃u,cs'[k]? = some u/\u.oneCell'=true/\(BG ds' k).rel s u) (hs:Do hp id (.obj (BN (L.set i ⟨e.b,e.T,ds'⟩) Z))=some hp'):StI s0 n ⟨fr,hp'⟩ act { s with w:=W } ρ:=by
 obtain ⟨hO,hZ⟩:=Ex (hst.hp id _ hid)
 obtain ⟨_,_,cs0,hc0,_⟩:=hO.1 e (List.mem_of_getElem? hi)
 have h1:=hst.swap (o':=.obj (By L)) hid hO λ_ h=>h
 have h2:=FF h1 (Lt hid) hi hos htp hop hsz hfar hnew hl hds (hp':=hp.set id (.obj (By (L.set i ⟨e.b,e.T,ds'⟩)))) (by rw [Nk (by rw [List.length_set];exact CL hid),List.set_set])
 have h3:=h2.swap (o':=.obj (BN (L.set i ⟨e.b,e.T,ds'⟩) Z)) (Lt hid) ⟨h2.hp id _ (Lt hid),λj x z hj hz=>by
  rw [List.getElem?_set] at hj
  split at hj
  .rename_i hij
   split at hj
   .cases hj
    subst hij
    obtain ⟨cs,T,fz,w1,w2⟩:=hZ _ e z hi hz
    rw [hc0] at w1
    cases w1
    exact ⟨cs',e.T,_,hnew,(hcz _ hc0).trans w2⟩
   .cases hj
  .rename_i hij
   obtain ⟨cs,T,fz,w1,w2⟩:=hZ j x z hj hz
   exact ⟨cs,T,fz,(hfar x.b λhb=>hij (LG hO.2 hi hj hb.symm)).trans w1,w2⟩⟩ λ_ h=>h
 rw [List.set_set] at h3
 rw [Cs hs]
 exact h3
theorem VU{T:TypeId}{d:TypeDesc}{b m off:Nat}{z:Value}{x y:Operand}{L:List HE}{Z:List Nat}{e:HE}{es ds':List D}(id i:Nat)(hx:AS.arg ⟨fr,hp⟩ x = .d (pX e.b off))(hy:AS.arg ⟨fr,hp⟩ y = .d (Bb es))(hh:hp[id]? = some (.obj (BN L Z)))(hi:L[i]? = some e)(ht:Tab P T d m b z)(hm:es.length=m)(hc:SetAt e.ds off es ds')(hs:Do hp id (.obj (BN (L.set i ⟨e.b,e.T,ds'⟩) Z))=some hp')
  (h:AWl P s0 n ops Q rest ⟨fr,hp'⟩):AWl P s0 n ops Q (⟨none,.store T x y,ty,ps,af,none⟩::rest) ⟨fr,hp⟩:=by
 refine AWl.step rfl λs ρ a hst K hK=>?_
 have hx':=hst.arg x
 have hy':=hst.arg y
 rw [hx] at hx';rw [hy] at hy'
 have e1:a.eval x = .pointer (some ⟨e.b,off,none⟩):=hx'
 obtain ⟨h1,-⟩:=(Ex (hst.hp id _ hh)).1
 obtain ⟨hT,hS,cs,h4,h5,h6⟩:=h1 e (List.mem_of_getElem? hi)
 obtain ⟨vs,e2,hv1,hv2⟩:=hy'
 have hle:=hc.le
 have hvone:∀v∈vs.toList,v.oneCell'=true:=λv hv=>by
  obtain ⟨k,hk,rfl⟩:=List.getElem_of_mem hv
  simp at hk
  obtain ⟨u,h9,h10,_⟩:=hv2 k (by omega)
  rw [Array.getElem?_eq_getElem hk] at h9
  cases h9
  simpa using h10
 have hvl:vs.toList.length=m:=by simp [hv1,hm]
 have hst1:=run_storeCells_at P e.b off e.T vs.toList 0 cs s.w h4 (by omega) hvone
 simp only [Nat.add_zero] at hst1
 obtain ⟨W,hW⟩:∃W,W=s.w.setRow e.b (cs.toList.take off++vs.toList++cs.toList.drop (off+vs.toList.length)).toArray:=⟨_,rfl⟩
 rw [<-hW] at hst1
 have hrun:(execOp a.eval ⟨none,.store T x y,ty,ps,af,none⟩).run P s.w = .ok .skip W:=by
  simp [execOp,e1,e2,Instr.storeAt,Instr.sureAddr,storeVar,Value.cells,hv1,hm,ht.run_size,hst1]
 unfold Oper.wp
 rw [hrun]
 have hnew:W.heap[e.b]? = some (.cells (cs.toList.take off++vs.toList++cs.toList.drop (off+vs.toList.length)).toArray e.T (0,0)):=by rw [hW];exact setRow_heap s.w e.b cs _ e.T _ h4
 have hfin := LQ hst hh hi (W := W) (ds' := ds') (by rw [hW]; rfl) (by rw [hW]; rfl) (by rw [hW]; rfl) (by rw [hW]; simp [World.setRow]) (fun b hb => by rw [hW]; exact setRow_other s.w e.b b _ (fun e => hb e)) hnew (fun cs0 h0 => by rw [h4] at h0; cases h0; simp; omega)
  (by rw [← hc.eq, Cn hle]; simp; omega) (fun k hk => by
   rw [<-hc.eq,Cn hle] at hk
   rw [HH (by omega),<-hc.eq,Lo hle]
   by_cases hr:off<=k/\k<off+es.length
   .rw [if_pos (by omega), if_pos hr]
    obtain ⟨u,g1,g2,g3⟩:=hv2 (k-off) (by omega)
    exact ⟨u,by simpa using g1,g2,g3⟩
   .rw [if_neg (by omega), if_neg hr]
    exact h6 k hk) hs
 exact hK _ _ _ h ⟨_,ρ,rfl,hfin⟩
theorem MC{T:TypeId}{d:TypeDesc}{b off:Nat}{z:Value}{x y:Operand}{L:List HE}{Z:List Nat}{e:HE}{u:D}{ds':List D}(id i:Nat)(hx:AS.arg ⟨fr,hp⟩ x = .d (pX e.b off))(hy:AS.arg ⟨fr,hp⟩ y = .d u)(hh:hp[id]? = some (.obj (BN L Z)))(hi:L[i]? = some e)(ht:Tab P T d 1 b z)(h1:One hp (.d u))(hc:SetAt e.ds off [u] ds')(hs:Do hp id (.obj (BN (L.set i ⟨e.b,e.T,ds'⟩) Z))=some hp')
  (h:AWl P s0 n ops Q rest ⟨fr,hp'⟩):AWl P s0 n ops Q (⟨none,.store T x y,ty,ps,af,none⟩::rest) ⟨fr,hp⟩:=by
 refine AWl.step rfl λs ρ a hst K hK=>?_
 have hx':=hst.arg x
 have hy':=hst.arg y
 rw [hx] at hx';rw [hy] at hy'
 have e1:a.eval x = .pointer (some ⟨e.b,off,none⟩):=hx'
 obtain ⟨g1,-⟩:=(Ex (hst.hp id _ hh)).1
 obtain ⟨hT,hS,cs,h4,h5,h6⟩:=g1 e (List.mem_of_getElem? hi)
 have hle:=hc.le
 simp only [List.length_cons,List.length_nil] at hle
 have hv1:=h1 _ _ _ _ hst.hp hy'
 have hcell:s.w.cell? ⟨e.b,off,none⟩=some (cs[off]'(by omega)):=(AU h4).trans (Array.getElem?_eq_getElem _)
 have hfz:s.w.frozen? ⟨e.b,off,none⟩=false:=Blk.frozen h4 off
 have hvc:(a.eval y).cells=#[a.eval y]:=by cases hv:a.eval y<;>first | rfl | (rw [hv] at hv1;cases hv1)
 have hrun:(execOp a.eval ⟨none,.store T x y,ty,ps,af,none⟩).run P s.w = .ok .skip (s.w.setCell ⟨e.b,off,none⟩ (a.eval y)):=by
  have h9:(store ⟨e.b,off,none⟩ (a.eval y)).run P s.w = .ok () (s.w.setCell ⟨e.b,off,none⟩ (a.eval y)):=by
   cases hv:a.eval y<;>first | (rw [hv] at hv1;cases hv1;done) | simp [store,Sem.run,hcell,hfz]
  simp [execOp,e1,Instr.storeAt,Instr.sureAddr,storeVar,hvc,ht.run_size,storeCells,Addr.add_lit,h9]
 unfold Oper.wp
 rw [hrun]
 have hfin := LQ hst hh hi (W := s.w.setCell ⟨e.b, off, none⟩ (a.eval y)) (ds' := ds') rfl rfl rfl (by simp [World.setCell]) (fun b hb => Below.heap_setCell _ _ _ _ hb) (Blk.set h4 off _) (fun cs0 h0 => by rw [h4] at h0; cases h0; simp)
  (by rw [← hc.eq, Cn hc.le]; simp; omega) (fun k hk => by
   rw [<-hc.eq,Cn hc.le] at hk
   rw [<-hc.eq,Lo hc.le]
   by_cases hr:off<=k/\k<off+1
   .obtain rfl:k=off:=by omega
    rw [if_pos (by simp)]
    have hko:k<cs.size:=by omega
    refine ⟨a.eval y,by simp [hko],hv1,?_⟩
    rw [Nat.sub_self]
    exact hy'
   .rw [if_neg (by simpa using hr), Array.getElem?_setIfInBounds_ne (by omega)]
    exact h6 k hk) hs
 exact hK _ _ _ h ⟨_,ρ,rfl,hfin⟩
theorem PL{x y:Operand}{t T T2 sz bytes m b e g0 c0 len:Nat}{z z':Value}{d:TypeDesc}{L:List HE}{Z:List Nat}{ds r:List D}{hpf:Nat->Nat->List Ow}(id i:Nat)(hx:AS.arg ⟨fr,hp⟩ x = .d (sX g0 len c0))(hh:hp[id]? = some (.obj (BN L Z)))(hi:L[i]? = some ⟨g0,T,ds⟩)(hz:Z[i]? = some (c0*sz))(hds:ds.length=len*sz)(hsz:0<sz)(hc:len<=c0)(hcm:c0<=9223372036854775807)(hr:r.length=sz)(hy:Ed hp (AS.arg ⟨fr,hp⟩ y)=some (slD T2 sz [r]))
  (ht:Tab P t (.slice T) m b z') (hT:Tab P T d sz bytes z) (hzs:z.cells.size=sz) (hd:Nat.blt e n=true) (hbytes:(len+1)*bytes<=140737488355328) (h63:len+1<=4611686018427387904) (hs:∀g c,Do hp id (.obj (BN (L.set i ⟨g,T,ds++r⟩) (Z.set i (c*sz))))=some (hpf g c))
  (h:∀g c,len+1<=c->c<=9223372036854775807->AWl P s0 n ops Q rest ⟨(e,.d (sX g (len+1) c))::fr,hpf g c⟩):AWl P s0 n ops Q (⟨some e,.call { callee:=.builtin .append,args:=#[x,y],argTypes:=#[t,t] },ty,ps,af,none⟩::rest) ⟨fr,hp⟩:=by
 refine AWl.step rfl λs ρ a hst K hK=>?_
 have e1:a.eval x = .slice (some ⟨g0,0,none⟩) len c0:=by
  have hx':=hst.arg x
  rw [hx] at hx'
  exact hx'
 obtain ⟨hO,hZ⟩:=Ex (hst.hp id _ hh)
 have hmem:=List.mem_of_getElem? hi
 obtain ⟨hT32,hS,cs,hg0,hcl,hcd⟩:=hO.1 _ hmem
 replace hT32:T≠136:=hT32
 replace hS:∀k,¬s.S g0 k:=hS
 replace hg0:s.w.heap[g0]? = some (.cells cs T (0,0)):=hg0
 replace hcl:ds.length<=cs.size:=hcl
 replace hcd:∀k,k<ds.length->∃u,cs[k]? = some u/\u.oneCell'=true/\(BG ds k).rel s u:=hcd
 have hcsz:cs.size=c0*sz:=by
  obtain ⟨cs',T',fz',w1,w2⟩:=hZ i _ _ hi hz
  replace w1:s.w.heap[g0]? = some (.cells cs' T' fz'):=w1
  rw [hg0] at w1
  cases w1
  exact w2
 obtain ⟨A,c1,e2,h7,h8,h9⟩:=BW hst.hp (hst.arg y) hy
 obtain ⟨gy,p,rfl,h10⟩:=h9 (by simp)
 obtain ⟨news,n1,n2,n3,n4⟩:=KM h10
 have hlt:g0<s.w.heap.size:=AG hg0
 have hown0:=hst.own id _ g0 hh ⟨_,hmem,rfl⟩
 let s1:GS:=⟨λb k=>s.S b k\/(b=g0/\k<len*sz),s.tag,s.w⟩
 have hc1:GS.Chg s s1:=⟨Nat.le_refl _,λ_ _ hk=>.inl hk,λb cs T fz hb=>⟨cs,fz,hb,λ_ _=>rfl⟩⟩
 have hok1:s1.Ok:=⟨λb k hk=>hk.elim (hst.ok.lt b k) λh=>h.1▸hlt,λb k hty=>.inl (hst.ok.safe b k hty)⟩
 have hle1:GS.LeX s0.mine s0.g s1:=⟨hst.le.os,hst.le.tape,hst.le.output,hst.le.block,hst.le.chg.trans hc1,λb k hb hm hk=>hk.elim (hst.le.old b k hb hm) λhk=>(hown0.elim (λh=>hm (hk.1▸h)) λh=>absurd hb (by rw [hk.1];omega)).elim,hst.le.tag,λ_=>hok1⟩
 obtain ⟨v',s',hr',q1,q2,q3,q4,q5,q6,q7⟩:=HI (P:=P) (ty:=ty) hle1 hok1 ht.und hT hzs hT32 hsz (v:=.slice (some ⟨g0,0,none⟩) len c0) (n:=len) (xs:=cs.toList.take (len*sz)) ⟨by rw [List.length_take,Array.length_toList];omega,.inr ⟨g0,c0,cs,rfl,Nat.zero_le _,hg0,hc,by simpa [maxLen] using hcm,hcsz,rfl⟩⟩ (λb hb=>by cases hb;exact hown0) (λb hb k=>by cases hb;exact ⟨λhk=>hk.elim (λhk=>absurd hk (hS k)) λh=>h.2,λhk=>.inr ⟨rfl,hk⟩⟩) gy p 1 c1 news n1 Nat.one_pos n2 n3 hbytes h63
 have hr':(Builtin.append_ #[t,t] ty #[.slice (some ⟨g0,0,none⟩) len c0,.slice (some ⟨gy,p,none⟩) 1 c1]).run P s.w = .ok v' s'.w:=hr'
 have e2:a.eval y = .slice (some ⟨gy,p,none⟩) 1 c1:=e2
 have hrun:(execOp a.eval ⟨some e,.call { callee:=.builtin .append,args:=#[x,y],argTypes:=#[t,t] },ty,ps,af,none⟩).run P s.w = .ok (.value v') s'.w:=by
  simp only [execOp,resolve,invoke,builtin,Sem.run_bind,Sem.run_pure,Result.andThen_ok,List.map_toArray,List.map_cons,List.map_nil,e1,e2,hr']
 unfold Oper.wp
 rw [hrun]
 obtain ⟨g,cap,cur,rfl,hbg,hg,hnc,hcm',hcs,htake⟩:=q4.2.resolve_left (λ⟨_,hn⟩=>by omega)
 have hgo:g=g0\/s.w.heap.size<=g:=(q7 g rfl).imp (λh=>(Option.some.inj h).symm) λh=>h
 have hSg:∀k,¬s.S g k:=λk hk=>by
  rcases hgo with rfl | hb
  .exact hS k hk
  .have:=hst.ok.lt _ _ hk
   omega
 let s2:GS:=⟨λb k=>s'.S b k/\b≠g/\b≠g0,s'.tag,s'.w⟩
 have hc2:GS.Chg s s2:=⟨q3.size,λb k hk=>⟨q3.up b k (.inl hk),λe=>hSg k (e▸hk),λe=>hS k (e▸hk)⟩,λb cs T fz hb=>by
  obtain ⟨cs',fz',r1,r2⟩:=q3.cell b cs T fz hb
  exact ⟨cs',fz',r1,λk hk=>r2 k (.inl hk)⟩⟩
 have hok2:s2.Ok:=⟨λb k hk=>q2.lt b k hk.1,λb k hty=>⟨q2.safe b k hty,λe=>by
  subst e
  obtain ⟨cs,fz,hb⟩:=hty
  have hb:s'.w.heap[b]? = _:=hb
  rw [hg] at hb
  exact hT32 (Obj.cells.inj (Option.some.inj hb)).2.1,λe=>by
  subst e
  obtain ⟨cs',fz',w3,_⟩:=q3.cell b _ _ _ hg0
  obtain ⟨cs,fz,hb⟩:=hty
  have hb:s'.w.heap[b]? = _:=hb
  rw [w3] at hb
  exact hT32 (Obj.cells.inj (Option.some.inj hb)).2.1⟩⟩
 have hle2:GS.LeX s0.mine s0.g s2:=⟨q1.os,q1.tape,q1.output,q1.block,hst.le.chg.trans hc2,λb k hb hm hk=>q1.old b k hb hm hk.1,q1.tag,λ_=>hok2⟩
 have hfar:∀b,b<s.w.heap.size->b≠g0->s'.w.heap[b]? = s.w.heap[b]? /\ ∀k,s2.S b k↔s.S b k:=λb hb hne=>by
  obtain ⟨w1,w2⟩:=q6 b hb λe=>hne (Option.some.inj e).symm
  refine ⟨w1,λk=>⟨λhk=>((w2 k).1 hk.1).elim (λh=>h) λh=>absurd h.1 hne,λhk=>⟨(w2 k).2 (.inl hk),λe=>hSg k (e▸hk),hne⟩⟩⟩
 have hother:∀j w,L[j]? = some w->i≠j->w.b≠g0:=λj w hj hij hb=>hij (LG hO.2 hi hj hb.symm)
 have hst':=hst.upd (s':=s2) (ρ':=ρ) (f:=λx=>x) (o':=.obj (BN (L.set i ⟨g,T,ds++r⟩) (Z.set i (cap*sz)))) hle2 hok2 hc2 hh
  (λb hb hnb=>hfar b hb λe=>hnb ⟨_,hmem,e.symm⟩) (λ_ _=>rfl)
  (by
   refine ⟨⟨λw hw=>?_,?_⟩,λj w zz hj hzz=>?_⟩
   .obtain ⟨j,hj⟩:=List.mem_iff_getElem?.1 hw
    rw [List.getElem?_set] at hj
    split at hj
    .split at hj
     .cases hj
      refine ⟨hT32,λk hk=>hk.2.1 rfl,cur,hg,?_,λk hk=>?_⟩
      .show (ds++r).length<=cur.size
       rw [List.length_append,hds,hr,hcs]
       have:=Nat.mul_le_mul_right sz hnc
       rw [Nat.succ_mul] at this
       exact this
      .have hk:k<len*sz+sz:=by rw [<-hds, <-hr, <-List.length_append]; exact hk
       have hcur:cur[k]? = (cs.toList.take (len*sz)++news)[k]?:=by
        rw [<-htake,List.getElem?_take,if_pos (by rw [Nat.succ_mul];exact hk)]
        simp
       have htl:(cs.toList.take (len*sz)).length=len*sz:=by rw [List.length_take,Array.length_toList];omega
       rw [hcur]
       by_cases hkr:k<len*sz
       .obtain ⟨u, w1, w2, w3⟩:=hcd k (by omega)
        refine ⟨u,by rw [List.getElem?_append_left (by omega),List.getElem?_take,if_pos hkr];simpa using w1,w2,?_⟩
        show (BG (ds++r) k).rel s2 u
        rw [show BG (ds++r) k=BG ds k from by simp only [BG];rw [List.getD_eq_getElem?_getD,List.getD_eq_getElem?_getD,List.getElem?_append_left (by omega)]]
        exact (BG ds k).st w3 hc2
       .obtain ⟨u, w1, w2, w3⟩:=n4 0 (k-len*sz) Nat.one_pos (by omega)
        rw [Nat.zero_mul,Nat.zero_add] at w1
        refine ⟨u,by rw [List.getElem?_append_right (by omega),htl];exact w1,w2,?_⟩
        show (BG (ds++r) k).rel s2 u
        rw [show BG (ds++r) k=BG ([r].getD 0 []) (k-len*sz) from by simp only [BG,List.getD_cons_zero];rw [List.getD_eq_getElem?_getD,List.getD_eq_getElem?_getD,List.getElem?_append_right (by omega),hds]]
        exact (BG _ _).st w3 hc2
     .cases hj
    .rename_i hij
     refine (hO.1 w (List.mem_of_getElem? hj)).keep hc2 (hfar w.b (hO.1 w (List.mem_of_getElem? hj)).lt (hother j w hj hij))
   .rw [List.map_set]
    refine Wy hO.2 (hgo.symm.imp (λhb hm=>?_) λe=>?_)
    .obtain ⟨w,hw,e⟩:=List.mem_map.1 hm
     have:=(hO.1 w hw).lt
     have e:w.b=g:=e
     omega
    .rw [List.getElem?_map,hi,e]
     rfl
   .rw [List.getElem?_set] at hj
    split at hj
    .rename_i hij
     subst hij
     split at hj
     .cases hj
      rw [List.getElem?_set,if_pos rfl] at hzz
      split at hzz
      .cases hzz
       exact ⟨cur,T,_,hg,hcs⟩
      .cases hzz
     .cases hj
    .rename_i hij
     rw [List.getElem?_set,if_neg hij] at hzz
     obtain ⟨cs',T',fz',w1,w2⟩:=hZ j w zz hj hzz
     exact ⟨cs',T',fz',(hfar w.b (hO.1 w (List.mem_of_getElem? hj)).lt (hother j w hj hij)).1.trans w1,w2⟩)
  (λb hb=>by
   obtain ⟨w,hw,rfl⟩:=hb
   obtain ⟨j,hj⟩:=List.mem_iff_getElem?.1 hw
   rw [List.getElem?_set] at hj
   split at hj
   .split at hj
    .cases hj
     exact hgo.imp (λe=>⟨_,hmem,e.symm⟩) λh=>h
    .cases hj
   .exact .inl ⟨w,List.mem_of_getElem? hj,rfl⟩) λav v h=>h.chg hc2
 rw [En,De] at hst'
 have hfin:=hst'.put (GS.Le.refl s2) (dst:=some e) (λd hd'=>by cases hd';simpa [Nat.blt_eq] using hd) (v:=.slice (some ⟨g,0,none⟩) (len+1) cap) (r:=.d (sX g (len+1) cap)) rfl
 have hk:=h g cap hnc (by simpa [maxLen] using hcm')
 rw [Cs (hs g cap)] at hk
 exact hK _ _ _ hk ⟨s2,_,rfl,hfin⟩
end
def AZ(ms:Ai):D:=slD 55 8 (ms.map AK)
def AH(ms:Ai)(k:Nat):Nat->Int:=ms.getD k default
theorem Cg{ms:Ai}{k:Nat}(h:k<ms.length):AH ms k∈ms:=by
 rw [AH,List.getD_eq_getElem?_getD,List.getElem?_eq_getElem h]
 exact List.getElem_mem _
theorem Zp:∀{l l':Ai},SameM l l'->AZ l=AZ l':=λ{l l'} h=>by
 have key:∀{l l':Ai},SameM l l'->l.map AK=l'.map AK:=by
  intro l
  induction l with
  | nil=>
   intro l' h
   cases l' with
   | nil=>rfl
   | cons b l'=>exact h.elim
  | cons a l ih=>
   intro l' h
   cases l' with
   | nil=>exact h.elim
   | cons b l'=>rw [List.map_cons,List.map_cons,Qp h.1,ih h.2]
 rw [AZ,AZ,key h]
theorem JU(p:Nat->Prop):∀n,(∀k,k<n->p k)\/∃z,z<n/\(∀k,k<z->p k)/\¬p z
 | 0=>.inl λk h=>absurd h (Nat.not_lt_zero k)
 | n+1=>by
  rcases JU p n with h | ⟨z,h1,h2,h3⟩
  .rcases Classical.em (p n) with hn | hn
   .refine .inl λk hk=>?_
    by_cases e:k=n
    .subst e;exact hn
    .exact h k (by omega)
   .exact .inr ⟨n,by omega,h,hn⟩
  .exact .inr ⟨z,by omega,h2,h3⟩
theorem Qx(a b:Nat->Int)(h:Dv a b):Abs Tryz.prog 122 [Bb (AK a),Bb (AK b)] (ex (.bool true)):=by
 refine Ab Tryz.func122 λs0=>?_
 rw [Tryz.ntmps122]
 apply Y1;refine Bx ?_;refine Bx ?_;refine Wa<|Y0<|Aa<|Y1<|Wm<|Y0<|AWp.block ?_
 refine AC (λmz σ=>∃k,k<=8/\mz=8-k/\σ=⟨[(2,.ptr 0 0),(3,.ptr 1 0),(6,.d (ex (.int .i64 (k:Nat))))],[.var 55 ((AK a).map .d),.var 55 ((AK b).map .d)]⟩) ?le ⟨0,by omega,rfl,rfl⟩ ?round
 case le=>exact Ah (by exact Yp<|Yp<|Yd<|FrLe.nil) (by exact Yv<|Yv<|HpLe.nil)
 case round=>
  rintro mz _ ⟨k,hk,rfl,rfl⟩
  by_cases hlt:k<8
  .have h1:=h k hlt
   apply Y1;refine Wq Ak ?_;refine Y0<|Aa<|Ct<|Ys<|Aa<|AWp.block<|Y1<|Wm<|Wa<|Y0<|Aa ?_
   refine Dr [[],[(9,0)],[(10,1)],[],[(12,3)],[(13,4)],[(11,2),(14,5)]] [[],[0],[0,1],[],[3],[3,4],[0,1,2,3,4,5]] ?_
   refine Xq Af ?_;refine Xq BE ?_;refine Xq BI ?_;refine Xq Af ?_;refine Xq BE ?_;refine Xq BI ?_;refine Xq Aj ?_;refine ⟨_,rfl,?_⟩
   refine Y0<|Cf<|AWp.skip<|Ag<|Yn<|AWp.region ?_;refine Wq AD ?_;refine Wm<|AWl.nil ?_
   refine ALoop.next (8-(k+1)) (by omega) ⟨k+1,by omega,rfl,rfl⟩ ?_
   exact Ah (by exact Yp<|Yp<|Yd<|FrLe.nil) (by exact Yv<|Yv<|HpLe.nil)
  .obtain rfl:k=8:=by omega
   apply Y1;refine Wq Aj ?_;refine Y0<|Aa<|Cf<|AA<|Aq<|Ar<|ABlock.hit<|Yn<|Y1<|Wa<|Y0<|Am ?_
   exact Yf
theorem Zx(a b:Nat->Int)(z:Nat)(hz:z<8)(h:∀j,j<z->a j<=b j)(hbad:b z<a z):Abs Tryz.prog 122 [Bb (AK a),Bb (AK b)] (ex (.bool false)):=by
 refine Ab Tryz.func122 λs0=>?_
 rw [Tryz.ntmps122]
 apply Y1;refine Bx ?_;refine Bx ?_;refine Wa<|Y0<|Aa<|Y1<|Wm<|Y0<|AWp.block ?_
 refine AC (λmz σ=>∃k,k<=z/\mz=z-k/\σ=⟨[(2,.ptr 0 0),(3,.ptr 1 0),(6,.d (ex (.int .i64 (k:Nat))))],[.var 55 ((AK a).map .d),.var 55 ((AK b).map .d)]⟩) ?le ⟨0,by omega,rfl,rfl⟩ ?round
 case le=>exact Ah (by exact Yp<|Yp<|Yd<|FrLe.nil) (by exact Yv<|Yv<|HpLe.nil)
 case round=>
  rintro mz _ ⟨k,hk,rfl,rfl⟩
  by_cases hlt:k<z
  .have h1:=h k hlt
   have h8:k<8:=by omega
   apply Y1;refine Wq Ak ?_;refine Y0<|Aa<|Ct<|Ys<|Aa<|AWp.block<|Y1<|Wm<|Wa<|Y0<|Aa ?_
   refine Dr [[],[(9,0)],[(10,1)],[],[(12,3)],[(13,4)],[(11,2),(14,5)]] [[],[0],[0,1],[],[3],[3,4],[0,1,2,3,4,5]] ?_
   refine Xq Af ?_;refine Xq BE ?_;refine Xq BI ?_;refine Xq Af ?_;refine Xq BE ?_;refine Xq BI ?_;refine Xq Aj ?_;refine ⟨_,rfl,?_⟩
   refine Y0<|Cf<|AWp.skip<|Ag<|Yn<|AWp.region ?_;refine Wq AD ?_;refine Wm<|AWl.nil ?_
   refine ALoop.next (z-(k+1)) (by omega) ⟨k+1,by omega,rfl,rfl⟩ ?_
   exact Ah (by exact Yp<|Yp<|Yd<|FrLe.nil) (by exact Yv<|Yv<|HpLe.nil)
  .obtain rfl:z=k:=by omega
   apply Y1;refine Wq Ak ?_;refine Y0<|Aa<|Ct<|Ys<|Aa<|AWp.block<|Y1<|Wm<|Wa<|Y0<|Aa ?_
   refine Dr [[],[(9,0)],[(10,1)],[],[(12,3)],[(13,4)],[(11,2),(14,5)]] [[],[0],[0,1],[],[3],[3,4],[0,1,2,3,4,5]] ?_
   refine Xq Af ?_;refine Xq BE ?_;refine Xq BI ?_;refine Xq Af ?_;refine Xq BE ?_;refine Xq BI ?_;refine Xq Ak ?_;refine ⟨_,rfl,?_⟩
   refine Y0<|Ct<|Y1<|Wa<|Y0<|Am<|Bw<|AP<|Di<|Bw<|AP ?_
   exact Yf
theorem Qf(a b:Nat->Int)(h:Dv a b):Abs Tryz.prog 77 [Bb (AK a),Bb (AK b)] (ex (.bool true)):=by
 refine Ab Tryz.func77 λs0=>?_
 rw [Tryz.ntmps77]
 apply Y1;refine Bx ?_;refine Bx ?_;refine Wa<|Y0<|Aa<|Y1<|Wa<|Y0<|AWp.block ?_
 refine AC (λmz σ=>∃k,k<=8/\mz=8-k/\σ=⟨[(2,.ptr 0 0),(3,.ptr 1 0),(5,.d (ex (.int .i64 (k:Nat))))],[.var 55 ((AK a).map .d),.var 55 ((AK b).map .d)]⟩) ?le ⟨0,by omega,rfl,rfl⟩ ?round
 case le=>exact Ah (by exact Yp<|Yp<|Yd<|FrLe.nil) (by exact Yv<|Yv<|HpLe.nil)
 case round=>
  rintro mz _ ⟨k,hk,rfl,rfl⟩
  by_cases hlt:k<8
  .have h1:=h k hlt
   refine Aa<|Y1<|Wm ?_;refine Wq Ak ?_;refine Y0<|Ct<|Ys<|Aa<|AWp.block<|Aa ?_
   refine Dr [[],[(10,0)],[(11,1)],[],[(13,3)],[(14,4)],[(12,2),(15,5)]] [[],[0],[0,1],[],[3],[3,4],[0,1,2,3,4,5]] ?_
   refine Xq Af ?_;refine Xq BE ?_;refine Xq BI ?_;refine Xq Af ?_;refine Xq BE ?_;refine Xq BI ?_;refine Xq Aj ?_;refine ⟨_,rfl,?_⟩
   refine Y0<|Cf<|AWp.skip<|Ag<|Yn<|AWp.region<|Wm ?_;refine Wq AD ?_;refine Wa<|AWl.nil ?_
   refine ALoop.next (8-(k+1)) (by omega) ⟨k+1,by omega,rfl,rfl⟩ ?_
   exact Ah (by exact Yp<|Yp<|Yd<|FrLe.nil) (by exact Yv<|Yv<|HpLe.nil)
  .obtain rfl:k=8:=by omega
   refine Aa<|Y1<|Wm ?_;refine Wq Aj ?_;refine Y0<|Cf<|AA<|Aq<|Ar<|ABlock.hit<|Yn<|Y1<|Wa<|Y0<|Am ?_
   exact Yf
theorem YO(a b:Nat->Int)(z:Nat)(hz:z<8)(h:∀j,j<z->a j<=b j)(hbad:b z<a z):Abs Tryz.prog 77 [Bb (AK a),Bb (AK b)] (ex (.bool false)):=by
 refine Ab Tryz.func77 λs0=>?_
 rw [Tryz.ntmps77]
 apply Y1;refine Bx ?_;refine Bx ?_;refine Wa<|Y0<|Aa<|Y1<|Wa<|Y0<|AWp.block ?_
 refine AC (λmz σ=>∃k,k<=z/\mz=z-k/\σ=⟨[(2,.ptr 0 0),(3,.ptr 1 0),(5,.d (ex (.int .i64 (k:Nat))))],[.var 55 ((AK a).map .d),.var 55 ((AK b).map .d)]⟩) ?le ⟨0,by omega,rfl,rfl⟩ ?round
 case le=>exact Ah (by exact Yp<|Yp<|Yd<|FrLe.nil) (by exact Yv<|Yv<|HpLe.nil)
 case round=>
  rintro mz _ ⟨k,hk,rfl,rfl⟩
  by_cases hlt:k<z
  .have h1:=h k hlt
   have h8:k<8:=by omega
   refine Aa<|Y1<|Wm ?_;refine Wq Ak ?_;refine Y0<|Ct<|Ys<|Aa<|AWp.block<|Aa ?_
   refine Dr [[],[(10,0)],[(11,1)],[],[(13,3)],[(14,4)],[(12,2),(15,5)]] [[],[0],[0,1],[],[3],[3,4],[0,1,2,3,4,5]] ?_
   refine Xq Af ?_;refine Xq BE ?_;refine Xq BI ?_;refine Xq Af ?_;refine Xq BE ?_;refine Xq BI ?_;refine Xq Aj ?_;refine ⟨_,rfl,?_⟩
   refine Y0<|Cf<|AWp.skip<|Ag<|Yn<|AWp.region<|Wm ?_;refine Wq AD ?_;refine Wa<|AWl.nil ?_
   refine ALoop.next (z-(k+1)) (by omega) ⟨k+1,by omega,rfl,rfl⟩ ?_
   exact Ah (by exact Yp<|Yp<|Yd<|FrLe.nil) (by exact Yv<|Yv<|HpLe.nil)
  .obtain rfl:z=k:=by omega
   refine Aa<|Y1<|Wm ?_;refine Wq Ak ?_;refine Y0<|Ct<|Ys<|Aa<|AWp.block<|Aa ?_
   refine Dr [[],[(10,0)],[(11,1)],[],[(13,3)],[(14,4)],[(12,2),(15,5)]] [[],[0],[0,1],[],[3],[3,4],[0,1,2,3,4,5]] ?_
   refine Xq Af ?_;refine Xq BE ?_;refine Xq BI ?_;refine Xq Af ?_;refine Xq BE ?_;refine Xq BI ?_;refine Xq Ak ?_;refine ⟨_,rfl,?_⟩
   refine Y0<|Ct<|Y1<|Wa<|Y0<|Am<|Bw<|AP<|Di<|Bw<|AP ?_
   exact Yf
theorem A2K(a b:Nat->Int):(Dv a b/\GH 8 0 a b=true)\/(GH 8 0 a b=false/\∃z,z<8/\(∀j,j<z->a j<=b j)/\b z<a z):=by
 rcases JU (λj=>a j<=b j) 8 with h | ⟨z,h1,h2,h3⟩
 .exact .inl ⟨h,MP.2 h⟩
 .exact .inr ⟨Bool.eq_false_iff.2 λh=>h3 (MP.1 h z h1),z,h1,h2,by omega⟩
theorem OT(a b:Nat->Int):Abs Tryz.prog 122 [Bb (AK a),Bb (AK b)] (ex (.bool (GH 8 0 a b))):=by
 rcases A2K a b with ⟨h,e⟩ | ⟨e,z,h1,h2,h3⟩
 .rw [e];exact Qx a b h
 .rw [e];exact Zx a b z h1 h2 h3
theorem KH(a b:Nat->Int):Abs Tryz.prog 77 [Bb (AK a),Bb (AK b)] (ex (.bool (GH 8 0 a b))):=by
 rcases A2K a b with ⟨h,e⟩ | ⟨e,z,h1,h2,h3⟩
 .rw [e];exact Qf a b h
 .rw [e];exact YO a b z h1 h2 h3
theorem A2H(l:Ai)(x:Nat->Int):(inB l x=false/\∀k,k<l.length->GH 8 0 (AH l k) x=false)\/(inB l x=true/\∃z,z<l.length/\(∀k,k<z->GH 8 0 (AH l k) x=false)/\GH 8 0 (AH l z) x=true):=by
 rcases JU (λk=>GH 8 0 (AH l k) x=false) l.length with h | ⟨z,h1,h2,h3⟩
 .refine .inl ⟨Bool.eq_false_iff.2 λhi=>?_,h⟩
  obtain ⟨a,ha,hd⟩:=Dp.1 hi
  obtain ⟨k,hk,rfl⟩:=List.getElem_of_mem ha
  have:=h k hk
  rw [AH,List.getD_eq_getElem?_getD,List.getElem?_eq_getElem hk] at this
  rw [Option.getD_some,MP.2 hd] at this
  cases this
 .have h4:GH 8 0 (AH l z) x=true:=by cases hb:GH 8 0 (AH l z) x<;>simp_all
  exact .inr ⟨Dp.2 ⟨_,Cg h1,MP.1 h4⟩,z,h1,h2,h4⟩
theorem KS(x:Nat->Int)(l:Ai)(hn:l.length<=1000000):Abs Tryz.prog 71 [Bb (AK x),AZ l] (ex (.bool (inB l x))):=by
 rcases A2H l x with ⟨e,h⟩ | ⟨e,z,h1,h2,h3⟩
 .rw [e]
  refine Ab Tryz.func71 λs0=>?_
  rw [Tryz.ntmps71]
  apply Y1;refine Bx ?_;refine Wa<|Y0<|Aa<|Y1<|Wm ?_;refine Wq AR ?_;refine Wm<|Y0<|AWp.block ?_
  refine AC (λmz σ=>∃k,k<=l.length/\mz=l.length-k/\σ=⟨[(2,.ptr 0 0),(7,.d (AZ l)),(8,.d (ex (.int .i64 (l.length:Nat)))),(9,.d (ex (.int .i64 (k:Nat))))],[.var 55 ((AK x).map .d)]⟩) ?le ⟨0,by omega,rfl,rfl⟩ ?round
  case le=>exact Ah (by exact Yp<|Yd<|Yd<|Yd<|FrLe.nil) (by exact Yv<|HpLe.nil)
  case round=>
   rintro mz _ ⟨k,hk,rfl,rfl⟩
   by_cases hlt:k<l.length
   .have ck:=OT (AH l k) x
    rw [h k hlt] at ck
    apply Y1;refine Wq Ak ?_;refine Y0<|Aa<|Ct<|Ys<|Aa<|AWp.block<|Y1 ?_;refine Wq AE ?_;refine Wq AB ?_;refine Al ?_;refine Sf ?_;refine Y0<|Y1 ?_;refine Wq At ?_;refine Wq At ?_;refine Wq (Ad (ck)) ?_;refine Y0<|Cf<|AWp.skip<|Ag<|Yn<|AWp.region ?_;refine Wq AD ?_;refine Wm<|AWl.nil ?_
    refine ALoop.next (l.length-(k+1)) (by omega) ⟨k+1,by omega,rfl,rfl⟩ ?_
    exact Ah (by exact Yp<|Yd<|Yd<|Yd<|FrLe.nil) (by exact Yv<|HpLe.nil)
   .obtain rfl:k=l.length:=by omega
    apply Y1;refine Wq Aj ?_;refine Y0<|Aa<|Cf<|AA<|Aq<|Ar<|ABlock.hit<|Yn<|Y1<|Wa<|Y0<|Am ?_
    exact Yf
 .rw [e]
  refine Ab Tryz.func71 λs0=>?_
  rw [Tryz.ntmps71]
  apply Y1;refine Bx ?_;refine Wa<|Y0<|Aa<|Y1<|Wm ?_;refine Wq AR ?_;refine Wm<|Y0<|AWp.block ?_
  refine AC (λmz σ=>∃k,k<=z/\mz=z-k/\σ=⟨[(2,.ptr 0 0),(7,.d (AZ l)),(8,.d (ex (.int .i64 (l.length:Nat)))),(9,.d (ex (.int .i64 (k:Nat))))],[.var 55 ((AK x).map .d)]⟩) ?le ⟨0,by omega,rfl,rfl⟩ ?round
  case le=>exact Ah (by exact Yp<|Yd<|Yd<|Yd<|FrLe.nil) (by exact Yv<|HpLe.nil)
  case round=>
   rintro mz _ ⟨k,hk,rfl,rfl⟩
   by_cases hlt:k<z
   .have hkl:k<l.length:=by omega
    have ck:=OT (AH l k) x
    rw [h2 k hlt] at ck
    apply Y1;refine Wq Ak ?_;refine Y0<|Aa<|Ct<|Ys<|Aa<|AWp.block<|Y1 ?_;refine Wq AE ?_;refine Wq AB ?_;refine Al ?_;refine Sf ?_;refine Y0<|Y1 ?_;refine Wq At ?_;refine Wq At ?_;refine Wq (Ad (ck)) ?_;refine Y0<|Cf<|AWp.skip<|Ag<|Yn<|AWp.region ?_;refine Wq AD ?_;refine Wm<|AWl.nil ?_
    refine ALoop.next (z-(k+1)) (by omega) ⟨k+1,by omega,rfl,rfl⟩ ?_
    exact Ah (by exact Yp<|Yd<|Yd<|Yd<|FrLe.nil) (by exact Yv<|HpLe.nil)
   .obtain rfl:z=k:=by omega
    have ck:=OT (AH l z) x
    rw [h3] at ck
    apply Y1;refine Wq Ak ?_;refine Y0<|Aa<|Ct<|Ys<|Aa<|AWp.block<|Y1 ?_;refine Wq AE ?_;refine Wq AB ?_;refine Al ?_;refine Sf ?_;refine Y0<|Y1 ?_;refine Wq At ?_;refine Wq At ?_;refine Wq (Ad (ck)) ?_;refine Y0<|Ct<|Y1<|Wa<|Y0<|Am<|Bw<|AP<|Di<|Bw<|AP ?_
    exact Yf
theorem UL(x:Nat->Int)(l:Ai)(hn:l.length<=1000000):Abs Tryz.prog 34 [Bb (AK x),AZ l] (ex (.bool (inB l x))):=by
 rcases A2H l x with ⟨e,h⟩ | ⟨e,z,h1,h2,h3⟩
 .rw [e]
  refine Ab Tryz.func34 λs0=>?_
  rw [Tryz.ntmps34]
  apply Y1;refine Bx ?_;refine Wa<|Y0<|Aa<|Y1<|Wa<|Y0<|AWp.block ?_
  refine AC (λmz σ=>∃k,k<=l.length/\mz=l.length-k/\σ=⟨[(1,.d (AZ l)),(2,.ptr 0 0),(5,.d (ex (.int .i64 (k:Nat))))],[.var 55 ((AK x).map .d)]⟩) ?le ⟨0,by omega,rfl,rfl⟩ ?round
  case le=>exact Ah (by exact Yd<|Yp<|Yd<|FrLe.nil) (by exact Yv<|HpLe.nil)
  case round=>
   rintro mz _ ⟨k,hk,rfl,rfl⟩
   by_cases hlt:k<l.length
   .have ck:=KH (AH l k) x
    rw [h k hlt] at ck
    refine Aa<|Y1<|Wm<|Wm ?_;refine Wq AR ?_;refine Wq Ak ?_;refine Y0<|Ct<|Ys<|Aa<|AWp.block<|Aa ?_
    refine Dr [[],[],[(12,0),(13,1)],[(14,2)],[],[(15,3),(16,4)]] [[],[],[0,1],[0,1,2],[],[0,1,2,3,4]] ?_
    refine Xq Af ?_;refine Xq Af ?_;refine Xq AE ?_;refine Xq AB ?_;refine Xq At ?_;refine Xq (Ad (ck)) ?_;refine ⟨_,rfl,?_⟩
    refine Y0<|Cf<|AWp.skip<|Ag<|Yn<|AWp.region<|Wm ?_;refine Wq AD ?_;refine Wa<|AWl.nil ?_
    refine ALoop.next (l.length-(k+1)) (by omega) ⟨k+1,by omega,rfl,rfl⟩ ?_
    exact Ah (by exact Yd<|Yp<|Yd<|FrLe.nil) (by exact Yv<|HpLe.nil)
   .obtain rfl:k=l.length:=by omega
    refine Aa<|Y1<|Wm<|Wm ?_;refine Wq AR ?_;refine Wq Aj ?_;refine Y0<|Cf<|AA<|Aq<|Ar<|ABlock.hit<|Yn<|Y1<|Wa<|Y0<|Am ?_
    exact Yf
 .rw [e]
  refine Ab Tryz.func34 λs0=>?_
  rw [Tryz.ntmps34]
  apply Y1;refine Bx ?_;refine Wa<|Y0<|Aa<|Y1<|Wa<|Y0<|AWp.block ?_
  refine AC (λmz σ=>∃k,k<=z/\mz=z-k/\σ=⟨[(1,.d (AZ l)),(2,.ptr 0 0),(5,.d (ex (.int .i64 (k:Nat))))],[.var 55 ((AK x).map .d)]⟩) ?le ⟨0,by omega,rfl,rfl⟩ ?round
  case le=>exact Ah (by exact Yd<|Yp<|Yd<|FrLe.nil) (by exact Yv<|HpLe.nil)
  case round=>
   rintro mz _ ⟨k,hk,rfl,rfl⟩
   by_cases hlt:k<z
   .have hkl:k<l.length:=by omega
    have ck:=KH (AH l k) x
    rw [h2 k hlt] at ck
    refine Aa<|Y1<|Wm<|Wm ?_;refine Wq AR ?_;refine Wq Ak ?_;refine Y0<|Ct<|Ys<|Aa<|AWp.block<|Aa ?_
    refine Dr [[],[],[(12,0),(13,1)],[(14,2)],[],[(15,3),(16,4)]] [[],[],[0,1],[0,1,2],[],[0,1,2,3,4]] ?_
    refine Xq Af ?_;refine Xq Af ?_;refine Xq AE ?_;refine Xq AB ?_;refine Xq At ?_;refine Xq (Ad (ck)) ?_;refine ⟨_,rfl,?_⟩
    refine Y0<|Cf<|AWp.skip<|Ag<|Yn<|AWp.region<|Wm ?_;refine Wq AD ?_;refine Wa<|AWl.nil ?_
    refine ALoop.next (z-(k+1)) (by omega) ⟨k+1,by omega,rfl,rfl⟩ ?_
    exact Ah (by exact Yd<|Yp<|Yd<|FrLe.nil) (by exact Yv<|HpLe.nil)
   .obtain rfl:z=k:=by omega
    have ck:=KH (AH l z) x
    rw [h3] at ck
    refine Aa<|Y1<|Wm<|Wm ?_;refine Wq AR ?_;refine Wq Ak ?_;refine Y0<|Ct<|Ys<|Aa<|AWp.block<|Aa ?_
    refine Dr [[],[],[(12,0),(13,1)],[(14,2)],[],[(15,3),(16,4)]] [[],[],[0,1],[0,1,2],[],[0,1,2,3,4]] ?_
    refine Xq Af ?_;refine Xq Af ?_;refine Xq AE ?_;refine Xq AB ?_;refine Xq At ?_;refine Xq (Ad (ck)) ?_;refine ⟨_,rfl,?_⟩
    refine Y0<|Ct<|Y1<|Wa<|Y0<|Am<|Bw<|AP<|Di<|Bw<|AP ?_
    exact Yf
end Go.Proofs.YtialdhnijjnpaaaGreat
namespace Go.Proofs.YtialdhnijjnpaaaGreat
open Go.RowKit Go.Sort
def Ix(x:Nat->Int):List Value:=(c8 x).toList
def cfM(x y:Nat->Int):Int:=DY x y
theorem Ia(a b:Nat->Int):lx a b=DY a b:=by simp [lx,FA,Fo]
theorem QX(x:Nat->Int){j:Nat}(h:j<8):(Ix x)[j]! = .int .i64 (x j):=by
 rcases lt8 h with rfl | rfl | rfl | rfl | rfl | rfl | rfl | rfl<;>rfl
theorem A15:SWO (ltOf cfM) where
 irrefl x:=by
  have:=OU x
  rw [Ia] at this
  simp [ltOf,cfM,this]
 trans x y z h1 h2:=by
  have h1:DY x y<0:=of_decide_eq_true h1
  have h2:DY y z<0:=of_decide_eq_true h2
  show decide (DY x z<0)=true
  rw [decide_eq_true_eq]
  rw [<-Ia] at h1 h2 ⊢
  have:=LJ (a:=z) (b:=y) (c:=x) (by rw [DR];omega) (by rw [DR];omega)
  rw [DR]
  omega
 ntrans x y z h1 h2:=by
  have h1:¬DY x y<0:=of_decide_eq_false h1
  have h2:¬DY y z<0:=of_decide_eq_false h2
  show decide (DY x z<0)=false
  rw [decide_eq_false_iff_not]
  have:=(Io (R:=[]) (a:=x) (b:=y) (c:=z) (by rw [show FA [] x y=DY x y from Ia x y];omega) (by rw [show FA [] y z=DY y z from Ia y z];omega)).1
  rw [show FA [] x z=DY x z from Ia x z] at this
  omega
theorem Xm(g c:Nat)(d:Array (Nat->Int))(w:World)(hH:HoldsK Ix 8 w g 0 d)(hgl:g<w.heap.size)(hn:d.size<4611686018427387904) :
  Calls Tryz.prog 124 #[.slice (some ⟨g,0,none⟩) d.size c,.func (.func 74) #[] #[]] w λe w'=>e = .returned (.tuple #[])/\∃d' m os,PermIn 0 d.size d d'/\SortedIn (ltOf cfM) 0 d.size d'/\w'=sortWorldK Ix 8 w g 0 m d' os:=by
 have eg:∀args w,(callFunc 74 args).run Tryz.prog w = .ok (.enter 74 args) w:=enters_of Tryz.func74 (by kernel_rfl) rfl
 have hcmp:CmpLays Tryz.prog 74 #[] Ix 8 cfM g 0 d.size w:=λm os dk hdk x y=>(WI x y _).mono λe w' ⟨he,hg⟩=>⟨he,hg.grow⟩
 refine (AnyQ.slices_SortFunc Tryz.sortMono 8 Tryz.isAgg55 Tryz.sizeOf55 Ix (λ_=>rfl) (λx v hv=>by simp [Ix,c8] at hv;rcases hv with rfl | rfl | rfl | rfl | rfl | rfl | rfl | rfl<;>rfl) cfM A15 74 #[] g 0 c d w eg hcmp hH hgl hn).mono ?_
 rintro e w' ⟨rfl,d',q,os,hp,hs,rfl⟩
 exact ⟨rfl,d',q,os,hp,hs,rfl⟩
def EE(l:Ai):List D:=(l.map AK).flatten
theorem DF:∀l:Ai,(EE l).length=l.length*8
 | []=>rfl
 | a::l=>by
  show (AK a++EE l).length=_
  rw [List.length_append,DF l,List.length_cons,Nat.succ_mul,Nat.add_comm]
  rfl
theorem JQ:∀(l:Ai) {i j:Nat},i<l.length->j<8->BG (EE l) (i*8+j)=ex (.int .i64 (AH l i j))
 | a::l,0,j,_,hj=>by
  show BG (AK a++EE l) (0*8+j)=_
  rw [Nat.zero_mul,Nat.zero_add]
  have:BG (AK a++EE l) j=BG (AK a) j:=by
   simp only [BG]
   rw [List.getD_eq_getElem?_getD,List.getD_eq_getElem?_getD,List.getElem?_append_left (by rw [Cq];exact hj)]
  rw [this,Hv hj]
  rfl
 | a::l,i+1,j,hi,hj=>by
  have ih:=JQ l (i:=i) (j:=j) (by simpa using hi) hj
  show BG (AK a++EE l) ((i+1)*8+j)=_
  have:BG (AK a++EE l) ((i+1)*8+j)=BG (EE l) (i*8+j):=by
   simp only [BG]
   rw [List.getD_eq_getElem?_getD,List.getD_eq_getElem?_getD,List.getElem?_append_right (by rw [Cq];omega),Cq,show (i+1)*8+j-8=i*8+j by omega]
  rw [this,ih]
  rfl
theorem Ng(l:Ai)(g c:Nat)(hn:l.length<=1000000):Con Tryz.prog 124 [.d (sX g l.length c),.d (ex (.func (.func 74) #[] #[]))] [.obj (By [⟨g,55,EE l⟩])] []
  (λr hp'=>∃s:Ai,s.Perm l/\(s.Pairwise λa b=>lx a b<=0)/\r = .d Cp/\hp'=[.obj (By [⟨g,55,EE s⟩])]):=by
 refine ⟨Az Tryz.func124 (by kernel_rfl) (by kernel_rfl),λs ρ vs hok hhp hsep hl hv=>?_⟩
 have e1:vs.getD 0 undef = .slice (some ⟨g,0,none⟩) l.length c:=hv 0 _ rfl
 have e2:vs.getD 1 undef = .func (.func 74) #[] #[]:=hv 1 _ rfl
 have evs:vs.toArray=#[.slice (some ⟨g,0,none⟩) l.length c,.func (.func 74) #[] #[]]:=by
  match vs,hl with
  | [a,b],_=>
   have e1:a=_:=e1
   have e2:b=_:=e2
   rw [e1,e2]
 obtain ⟨h1,_⟩:=Ec (hhp 0 _ rfl)
 obtain ⟨hT,hS,cs,hg,hlc,hcd⟩:=h1 _ List.mem_cons_self
 replace hS:∀k,¬s.S g k:=hS
 replace hg:s.w.heap[g]? = some (.cells cs 55 (0,0)):=hg
 replace hlc:(EE l).length<=cs.size:=hlc
 replace hcd:∀k,k<(EE l).length->∃u,cs[k]? = some u/\u.oneCell'=true/\(BG (EE l) k).rel s u:=hcd
 rw [DF] at hlc hcd
 have hcell:∀i j,i<l.length->j<8->cs[i*8+j]? = some (.int .i64 (AH l i j)):=λi j hi hj=>by
  obtain ⟨u,g1,_,g3⟩:=hcd (i*8+j) (by omega)
  rw [JQ l hi hj] at g3
  rw [g1]
  exact congrArg some g3
 have hlt:g<s.w.heap.size:=AG hg
 obtain ⟨d,hd⟩:∃d:Array (Nat->Int),d=l.toArray:=⟨_,rfl⟩
 have hds:d.size=l.length:=by rw [hd];simp
 have hdg:∀i,i<l.length->d[i]! = AH l i:=λi hi=>by
  rw [getElem!_pos d i (by omega),AH,List.getD_eq_getElem?_getD,List.getElem?_eq_getElem hi]
  simp [hd]
 have hH:HoldsK Ix 8 s.w g 0 d:=by
  intro q hq
  rw [size_flatK,hds] at hq
  rw [get_flatK _ _ _ _ (by rw [hds];exact hq),hdg _ (by omega),QX _ (by omega),Nat.zero_add]
  have:=hcell (q/8) (q%8) (by omega) (by omega)
  rw [show q/8*8+q%8=q by omega] at this
  exact ⟨(AU hg).trans this,Blk.frozen hg q⟩
 have hcon:=Xm g c d s.w hH hlt (by omega)
 rw [hds] at hcon
 rw [evs]
 refine hcon.mono ?_
 rintro e w' ⟨rfl,d',m,os,hp,hs,rfl⟩
 have hds':d'.size=l.length:=hp.1.trans hds
 have hnew:=Ky Ix 8 s.w g 0 m d' os hg
 have hfar:∀b,b<s.w.heap.size->b≠g->(sortWorldK Ix 8 s.w g 0 m d' os).heap[b]? = s.w.heap[b]?:=λb hb hne=>Kz Ix 8 s.w g 0 m d' os hb hne
 have hsz:s.w.heap.size<=(sortWorldK Ix 8 s.w g 0 m d' os).heap.size:=size_sortWorldK_c Ix 8 s.w g 0 m d' os
 let s':GS:=⟨λb k=>s.S b k\/(s.w.heap.size<=b/\b<(sortWorldK Ix 8 s.w g 0 m d' os).heap.size),s.tag,sortWorldK Ix 8 s.w g 0 m d' os⟩
 have hc:GS.Chg s s':=⟨hsz,λ_ _ h=>.inl h,λb cs' T fz hb=>by
  by_cases e:b=g
  .subst e
   rw [hg] at hb
   cases hb
   exact ⟨_,_,hnew,λk hk=>absurd hk (hS k)⟩
  .exact ⟨cs',fz,(hfar b (AG hb) e).trans hb,λ_ _=>rfl⟩⟩
 have hok':s'.Ok:=⟨λb k hb=>hb.elim (λh=>Nat.lt_of_lt_of_le (hok.lt b k h) hsz) λh=>h.2,λb k ⟨c2,fz,hb⟩=>by
  replace hb:(sortWorldK Ix 8 s.w g 0 m d' os).heap[b]? = some (.cells c2 136 fz):=hb
  rcases Nat.lt_or_ge b s.w.heap.size with h1 | h1
  .by_cases e:b=g
   .rw [e,hnew] at hb
    exact absurd (Obj.cells.inj (Option.some.inj hb)).2.1 (by decide)
   .exact .inl (hok.safe b k ⟨c2,fz,(hfar b h1 e).symm.trans hb⟩)
  .exact .inr ⟨h1,AG hb⟩⟩
 have e3:(d'.extract 0 l.length).toList=d'.toList:=by
  rw [<-hds']
  simp
 have e4:(d.extract 0 l.length).toList=l:=by
  rw [<-hds,hd]
  simp
 have hperm:d'.toList.Perm l:=by
  have:=hp.2.2
  rw [e3,e4] at this
  exact this
 refine ⟨_,rfl,s',ρ,.d Cp,[.obj (By [⟨g,55,EE d'.toList⟩])],⟨d'.toList,hperm,?_,rfl,rfl⟩,rfl,trivial,⟨⟨rfl,rfl,rfl,λk hk hm=>hfar k hk λe=>hm ⟨0,_,rfl,⟨_,List.mem_cons_self,e.symm⟩⟩,hc,λb k hb _ hk=>hk.elim (λh=>h) λh=>absurd hb (by omega),λ_ _=>rfl,λ_=>hok'⟩,hok',λi o hi=>?_,λi j o o' hij hi hj=>?_,λi o b hi hb=>?_,λ_ _ _=>rfl,Nat.le_refl _⟩⟩
 .rw [List.pairwise_iff_getElem]
  intro i j h1 h2 hij
  have:=hs i j (Nat.zero_le _) hij (by rw [Array.length_toList] at h2;omega)
  have this:¬DY (d'[j]!) (d'[i]!)<0:=of_decide_eq_false this
  rw [Array.length_toList] at h1 h2
  rw [getElem!_pos d' i h1,getElem!_pos d' j h2] at this
  rw [<-Ia,DR] at this
  simp only [Array.getElem_toList]
  omega
 .match i,hi with
  | 0,hi=>
   cases hi
   refine ⟨λx hx=>?_,by simp⟩
   rw [List.mem_singleton.1 hx]
   refine ⟨(by decide:(55:TypeId)≠136),λk hk=>hk.elim (hS k) λh=>absurd hlt (by show ¬g<_;have:s.w.heap.size<=g:=h.1;omega),_,hnew,?_,λk hk=>?_⟩
   .show (EE d'.toList).length<=_
    rw [DF,Array.length_toList,hds']
    simpa [putCells] using hlc
   .have hk:k<(EE d'.toList).length:=hk
    rw [DF,Array.length_toList,hds'] at hk
    have hkd:k/8<l.length:=by omega
    have e5:BG (EE d'.toList) k=ex (.int .i64 (AH d'.toList (k/8) (k%8))):=by
     have:=JQ d'.toList (i:=k/8) (j:=k%8) (by rw [Array.length_toList];omega) (by omega)
     rwa [show k/8*8+k%8=k by omega] at this
    refine ⟨.int .i64 (AH d'.toList (k/8) (k%8)),?_,rfl,by show (BG (EE d'.toList) k).rel s' _;rw [e5];rfl⟩
    have h6:k<cs.size:=by omega
    unfold putCells
    rw [Array.getElem?_mapIdx,Array.getElem?_eq_getElem h6]
    simp only [Option.map_some,size_flatK,hds']
    rw [if_pos (by omega),Nat.sub_zero,get_flatK _ _ _ _ (by omega),QX _ (by omega)]
    congr 2
    rw [getElem!_pos d' (k/8) (by omega),AH,List.getD_eq_getElem?_getD,List.getElem?_eq_getElem (by rw [Array.length_toList];omega)]
    simp
 .match i,j,hi,hj with
  | 0,0,_,_=>exact absurd rfl hij
 .match i,hi with
  | 0,hi=>
   cases hi
   obtain ⟨x,hx,e⟩:=hb
   rw [List.mem_singleton.1 hx] at e
   exact .inl ⟨0,_,rfl,⟨_,List.mem_cons_self,e⟩⟩
def Nx(a b:Nat->Int)(k j:Nat):Int:=if j<k then min (a j) (b j) else a j
theorem Nw(a b:Nat->Int)(k:Nat):HV (Nx a b k) k (min (a k) (b k))=Nx a b (k+1):=by
 funext j
 simp only [HV,Nx]
 rcases Nat.lt_trichotomy j k with h | h | h
 .rw [if_neg (by omega),if_pos h,if_pos (by omega)]
 .subst h;simp
 .rw [if_neg (by omega),if_neg (by omega),if_neg (by omega)]
theorem Qq(a b:Nat->Int)(k:Nat):Nx a b k k=a k:=if_neg (Nat.lt_irrefl k)
def Qr(a b:Nat->Int):Nat->Int:=λj=>min (a j) (b j)
def Ne(a b:Nat->Int)(k j:Nat):Int:=if j<k then a j-b j else a j
theorem Nd(a b:Nat->Int)(k:Nat):HV (Ne a b k) k (a k-b k)=Ne a b (k+1):=by
 funext j
 simp only [HV,Ne]
 rcases Nat.lt_trichotomy j k with h | h | h
 .rw [if_neg (by omega),if_pos h,if_pos (by omega)]
 .subst h;simp
 .rw [if_neg (by omega),if_neg (by omega),if_neg (by omega)]
theorem PR(a b:Nat->Int)(k:Nat):Ne a b k k=a k:=if_neg (Nat.lt_irrefl k)
def A4d(a b:Nat->Int):Nat->Int:=λj=>a j-b j
theorem Zw(a b:Nat->Int):Abs Tryz.prog 92 [Bb (AK a),Bb (AK b)] (Bb (AK (Qr a b))):=by
 refine Ab Tryz.func92 λs0=>?_
 rw [Tryz.ntmps92]
 apply Y1;refine Bx ?_;refine Bx ?_;refine Al ?_;refine Y0<|Aa<|Y1<|Wm<|Y0<|AWp.block ?_
 refine AC (λmz σ=>∃k,k<=8/\mz=8-k/\σ=⟨[(2,.ptr 0 0),(3,.ptr 1 0),(4,.ptr 2 0),(6,.d (ex (.int .i64 (k:Nat))))],[.var 55 ((AK (Nx a b k)).map .d),.var 55 ((AK b).map .d),.var 55 ((AK λ_=>0).map .d)]⟩) ?le ⟨0,by omega,rfl,rfl⟩ ?round
 case le=>exact Ah (by exact Yp<|Yp<|Yp<|Yd<|FrLe.nil) (by exact Yv<|Yv<|Yv<|HpLe.nil)
 case round=>
  rintro mz _ ⟨k,hk,rfl,rfl⟩
  by_cases hlt:k<8
  .have h1:=Qq a b k
   apply Y1;refine Wq Ak ?_;refine Y0<|Aa<|Ct<|Ys<|Aa<|AWp.block<|Y1<|Wm<|Wa<|Y0 ?_
   refine Dr [[],[],[(10,1)],[(11,2)],[],[(13,4)],[(14,5)],[(12,3),(15,6)],[(9,0)]] [[],[],[1],[1,2],[],[4],[4,5],[1,2,3,4,5,6],[0,1,2,3,4,5,6,7]] ?_
   refine Xq Af ?_;refine Xq Af ?_;refine Xq BE ?_;refine Xq BI ?_;refine Xq Af ?_;refine Xq BE ?_;refine Xq BI ?_;refine Xq A0p ?_;refine Xq BE ?_;refine ⟨_,rfl,?_⟩
   (refine DW (ao rfl) (ao rfl) rfl (Ac rfl) (by first | exact CH rfl | exact One.sl | exact Ei) (SetAt.mon (by first | omega | (simp;omega))) rfl ?_);refine AWl.nil<|Ag<|Yn<|AWp.region ?_;refine Wq AD ?_;refine Wm<|AWl.nil ?_
   refine ALoop.next (8-(k+1)) (by omega) ⟨k+1,by omega,rfl,rfl⟩ ?_
   exact Ah (by exact Yp<|Yp<|Yp<|Yd<|FrLe.nil) (by exact HpLe.cons (CQ (by rw [h1,Nw]))<|Yv<|Yv<|HpLe.nil)
  .obtain rfl:k=8:=by omega
   apply Y1;refine Wq Aj ?_;refine Y0<|Aa<|Cf<|AA<|Aq<|Ar<|ABlock.hit<|Yn<|Y1 ?_;refine Wq At ?_;refine Sf ?_;refine Y0<|Am ?_
   exact AN (Rets.of1 (ResV.cell rfl rfl (Ac rfl) rfl rfl rfl) (D.le.refl _))
theorem YN(a b:Nat->Int):Abs Tryz.prog 79 [Bb (AK a),Bb (AK b)] (Bb (AK (Qr a b))):=by
 refine Ab Tryz.func79 λs0=>?_
 rw [Tryz.ntmps79]
 apply Y1;refine Bx ?_;refine Bx ?_;refine Al ?_;refine Y0<|Aa<|Y1<|Wa<|Y0<|AWp.block ?_
 refine AC (λmz σ=>∃k,k<=8/\mz=8-k/\σ=⟨[(2,.ptr 0 0),(3,.ptr 1 0),(4,.ptr 2 0),(5,.d (ex (.int .i64 (k:Nat))))],[.var 55 ((AK (Nx a b k)).map .d),.var 55 ((AK b).map .d),.var 55 ((AK λ_=>0).map .d)]⟩) ?le ⟨0,by omega,rfl,rfl⟩ ?round
 case le=>exact Ah (by exact Yp<|Yp<|Yp<|Yd<|FrLe.nil) (by exact Yv<|Yv<|Yv<|HpLe.nil)
 case round=>
  rintro mz _ ⟨k,hk,rfl,rfl⟩
  by_cases hlt:k<8
  .have h1:=Qq a b k
   refine Aa<|Y1<|Wm ?_;refine Wq Ak ?_;refine Y0<|Ct<|Ys<|Aa<|AWp.block ?_
   refine Dr [[],[],[(11,1)],[(12,2)],[],[(14,4)],[(15,5)],[(13,3),(16,6)],[(10,0)]] [[],[],[1],[1,2],[],[4],[4,5],[1,2,3,4,5,6],[0,1,2,3,4,5,6,7]] ?_
   refine Xq Af ?_;refine Xq Af ?_;refine Xq BE ?_;refine Xq BI ?_;refine Xq Af ?_;refine Xq BE ?_;refine Xq BI ?_;refine Xq A0p ?_;refine Xq BE ?_;refine ⟨_,rfl,?_⟩
   (refine DW (ao rfl) (ao rfl) rfl (Ac rfl) (by first | exact CH rfl | exact One.sl | exact Ei) (SetAt.mon (by first | omega | (simp;omega))) rfl ?_);refine AWl.nil<|Ag<|Yn<|AWp.region<|Wm ?_;refine Wq AD ?_;refine Wa<|AWl.nil ?_
   refine ALoop.next (8-(k+1)) (by omega) ⟨k+1,by omega,rfl,rfl⟩ ?_
   exact Ah (by exact Yp<|Yp<|Yp<|Yd<|FrLe.nil) (by exact HpLe.cons (CQ (by rw [h1,Nw]))<|Yv<|Yv<|HpLe.nil)
  .obtain rfl:k=8:=by omega
   refine Aa<|Y1<|Wm ?_;refine Wq Aj ?_;refine Y0<|Cf<|AA<|Aq<|Ar<|ABlock.hit<|Yn<|Y1 ?_;refine Wq At ?_;refine Sf ?_;refine Y0<|Am ?_
   exact AN (Rets.of1 (ResV.cell rfl rfl (Ac rfl) rfl rfl rfl) (D.le.refl _))
theorem Zv(a b:Nat->Int)(h:Dv b a)(hb:In8 b 0 100000)(ha:In8 a 0 100000):Abs Tryz.prog 91 [Bb (AK a),Bb (AK b)] (BC [Bb (AK (A4d a b)),ex (.bool true)]):=by
 refine Ab Tryz.func91 λs0=>?_
 rw [Tryz.ntmps91]
 apply Y1;refine Bx ?_;refine Bx ?_;refine Al ?_;refine Wa<|Y0<|Aa<|Y1 ?_;refine Wq At ?_;refine Wq At ?_;refine Wq (Ad (Qx b a h)) ?_;refine Wq BH ?_;refine Y0<|Cf<|Ys<|Aa<|Y1<|Wm<|Y0<|AWp.block ?_
 refine AC (λmz σ=>∃k,k<=8/\mz=8-k/\σ=⟨[(2,.ptr 0 0),(3,.ptr 1 0),(4,.ptr 2 0),(12,.d (ex (.int .i64 (k:Nat))))],[.var 55 ((AK (Ne a b k)).map .d),.var 55 ((AK b).map .d),.var 55 ((AK λ_=>0).map .d)]⟩) ?le ⟨0,by omega,rfl,rfl⟩ ?round
 case le=>exact Ah (by exact Yp<|Yp<|Yp<|Yd<|FrLe.nil) (by exact Yv<|Yv<|Yv<|HpLe.nil)
 case round=>
  rintro mz _ ⟨k,hk,rfl,rfl⟩
  by_cases hlt:k<8
  .have h1:=PR a b k
   have g1:=ha k hlt
   have g2:=hb k hlt
   apply Y1;refine Wq Ak ?_;refine Y0<|Aa<|Ct<|Ys<|Aa<|AWp.block<|Y1<|Wm<|Wa<|Y0 ?_
   refine Dr [[],[(15,0)],[(16,1)],[],[(18,3)],[(19,4)],[(17,2),(20,5)],[(15,0)]] [[],[0],[0,1],[],[3],[3,4],[0,1,2,3,4,5],[0,1,2,3,4,5,6]] ?_
   refine Xq Af ?_;refine Xq BE ?_;refine Xq BI ?_;refine Xq Af ?_;refine Xq BE ?_;refine Xq BI ?_;refine Xq DV ?_;refine Xq BE ?_;refine ⟨_,rfl,?_⟩
   (refine DW (ao rfl) (ao rfl) rfl (Ac rfl) (by first | exact CH rfl | exact One.sl | exact Ei) (SetAt.mon (by first | omega | (simp;omega))) rfl ?_);refine AWl.nil<|Ag<|Yn<|AWp.region ?_;refine Wq AD ?_;refine Wm<|AWl.nil ?_
   refine ALoop.next (8-(k+1)) (by omega) ⟨k+1,by omega,rfl,rfl⟩ ?_
   exact Ah (by exact Yp<|Yp<|Yp<|Yd<|FrLe.nil) (by exact HpLe.cons (CQ (by rw [h1,Nd]))<|Yv<|Yv<|HpLe.nil)
  .obtain rfl:k=8:=by omega
   apply Y1;refine Wq Aj ?_;refine Y0<|Aa<|Cf<|AA<|Aq<|Ar<|ABlock.hit<|Yn<|Y1 ?_;refine Wq At ?_;refine Sf ?_;refine Wa<|Y0<|Am ?_
   exact AN (BA (ResV.cell rfl rfl (Ac rfl) rfl rfl rfl) (ResV.tmp rfl rfl) (Be (D.le.refl _) (D.le.refl _)))
theorem YM(a b:Nat->Int)(h:Dv b a)(hb:In8 b 0 100000)(ha:In8 a 0 100000):Abs Tryz.prog 78 [Bb (AK a),Bb (AK b)] (BC [Bb (AK (A4d a b)),ex (.bool true)]):=by
 refine Ab Tryz.func78 λs0=>?_
 rw [Tryz.ntmps78]
 apply Y1;refine Bx ?_;refine Bx ?_;refine Al ?_;refine Wa<|Y0<|Aa<|Y1 ?_;refine Wq At ?_;refine Wq At ?_;refine Wq (Ad (Qf b a h)) ?_;refine Wq BH ?_;refine Y0<|Cf<|Ys<|Aa<|Y1<|Wa<|Y0<|AWp.block ?_
 refine AC (λmz σ=>∃k,k<=8/\mz=8-k/\σ=⟨[(2,.ptr 0 0),(3,.ptr 1 0),(4,.ptr 2 0),(6,.d (ex (.int .i64 (k:Nat))))],[.var 55 ((AK (Ne a b k)).map .d),.var 55 ((AK b).map .d),.var 55 ((AK λ_=>0).map .d)]⟩) ?le ⟨0,by omega,rfl,rfl⟩ ?round
 case le=>exact Ah (by exact Yp<|Yp<|Yp<|Yd<|FrLe.nil) (by exact Yv<|Yv<|Yv<|HpLe.nil)
 case round=>
  rintro mz _ ⟨k,hk,rfl,rfl⟩
  by_cases hlt:k<8
  .have h1:=PR a b k
   have g1:=ha k hlt
   have g2:=hb k hlt
   refine Aa<|Y1<|Wm ?_;refine Wq Ak ?_;refine Y0<|Ct<|Ys<|Aa<|AWp.block ?_
   refine Dr [[],[(16,0)],[(17,1)],[],[(19,3)],[(20,4)],[(18,2),(21,5)],[(16,0)]] [[],[0],[0,1],[],[3],[3,4],[0,1,2,3,4,5],[0,1,2,3,4,5,6]] ?_
   refine Xq Af ?_;refine Xq BE ?_;refine Xq BI ?_;refine Xq Af ?_;refine Xq BE ?_;refine Xq BI ?_;refine Xq DV ?_;refine Xq BE ?_;refine ⟨_,rfl,?_⟩
   (refine DW (ao rfl) (ao rfl) rfl (Ac rfl) (by first | exact CH rfl | exact One.sl | exact Ei) (SetAt.mon (by first | omega | (simp;omega))) rfl ?_);refine AWl.nil<|Ag<|Yn<|AWp.region<|Wm ?_;refine Wq AD ?_;refine Wa<|AWl.nil ?_
   refine ALoop.next (8-(k+1)) (by omega) ⟨k+1,by omega,rfl,rfl⟩ ?_
   exact Ah (by exact Yp<|Yp<|Yp<|Yd<|FrLe.nil) (by exact HpLe.cons (CQ (by rw [h1,Nd]))<|Yv<|Yv<|HpLe.nil)
  .obtain rfl:k=8:=by omega
   refine Aa<|Y1<|Wm ?_;refine Wq Aj ?_;refine Y0<|Cf<|AA<|Aq<|Ar<|ABlock.hit<|Yn<|Y1 ?_;refine Wq At ?_;refine Sf ?_;refine Wa<|Y0<|Am ?_
   exact AN (BA (ResV.cell rfl rfl (Ac rfl) rfl rfl rfl) (ResV.tmp rfl rfl) (Be (D.le.refl _) (D.le.refl _)))
theorem A1x(a b:Nat->Int):Dv (Qr a b) a:=λj _=>Int.min_le_left _ _
structure PureQ(P:Program)(hp:List Ow)(o:Oper)(arg:Operand->AV)(r:AV):Prop where
 run:∀(base:Nat) (s:GS) (ρ:Nat->Value) (ev:Operand->Value),s.Ok->base<=s.w.heap.size->HpOk base ρ s hp->(∀x,x∈o.op.operands->AVr hp.length ρ s (arg x) (ev x))->∃v,(∀w,(execOp ev o).run P w = .ok (.value v) w)/\AVr hp.length ρ s r v
section
variable {P:Program} {hp:List Ow} {o:Oper} {arg:Operand->AV}
theorem PureQ.move{x:Operand}{r:AV}(hop:o.op = .move x)(hx:arg x=r):PureQ P hp o arg r:=by
 subst hx
 exact ⟨λbase s ρ ev hok hbs hhp h=>⟨ev x,λw=>by simp [execOp,hop],h x (by rw [hop];simp [Op.operands])⟩⟩
theorem PureQ.slice{x:Operand}{t:TypeId}{e n b n' b' T sz:Nat}{d:TypeDesc}{z z':Value}{lo hi:Option Operand}{rows:List (List D)}{i j:Int}(hop:o.op = .slice t x lo hi none)(hx:Ed hp (arg x)=some (slD T sz rows))(ht:Tab P t (.slice e) n b z)(he:Tab P e d n' b' z')(hsz:n'=sz)(hlo:(∃y,lo=some y/\arg y = .d (ex (.int .i64 i)))\/(lo=none/\i=0))(hhi:(∃y,hi=some y/\arg y = .d (ex (.int .i64 j)))\/(hi=none/\j=rows.length))(h0:0<=i)(hij:i<=j)(hj:j<=rows.length):PureQ P hp o arg (.d (slD T sz ((rows.take j.toNat).drop i.toNat))):=by
 refine ⟨λbase s ρ ev hok hbs hhp h=>?_⟩
 obtain ⟨A,c,e1,h1,h2,h3⟩:=BW hhp (h x (by rw [hop];simp [Op.operands])) hx
 subst hsz
 obtain ⟨i,rfl⟩:=Int.eq_ofNat_of_zero_le h0
 obtain ⟨j,rfl⟩:=Int.eq_ofNat_of_zero_le (Int.le_trans h0 hij)
 have hij':i<=j:=by omega
 have hj':j<=rows.length:=by omega
 have elo:∃lo',lo.map ev=lo'/\((lo'=some (.int .i64 i))\/(lo'=none/\i=0)):=by
  rcases hlo with ⟨y,rfl,hy⟩ | ⟨rfl,hi0⟩
  .have h5:=h y (by rw [hop]; simp [Op.operands])
   rw [hy] at h5
   exact ⟨_,rfl,.inl (by show some (ev y)=_;rw [show ev y=_ from h5])⟩
  .exact ⟨_,rfl,.inr ⟨rfl,by omega⟩⟩
 have ehi:∃hi',hi.map ev=hi'/\((hi'=some (.int .i64 j))\/(hi'=none/\j=rows.length)):=by
  rcases hhi with ⟨y,rfl,hy⟩ | ⟨rfl,hi0⟩
  .have h5:=h y (by rw [hop]; simp [Op.operands])
   rw [hy] at h5
   exact ⟨_,rfl,.inl (by show some (ev y)=_;rw [show ev y=_ from h5])⟩
  .exact ⟨_,rfl,.inr ⟨rfl,by omega⟩⟩
 obtain ⟨lo',l1,l2⟩:=elo
 obtain ⟨hi',r1,r2⟩:=ehi
 have hjc:(j:Int)<=c:=by omega
 have hic:(i:Int)<=j:=by omega
 have hb:∀w,(Instr.sliceBounds true rows.length c lo' hi' none).run P w = .ok (i,j,c) w:=λw=>by
  rcases l2 with rfl | ⟨rfl,rfl⟩<;>rcases r2 with rfl | ⟨rfl,rfl⟩<;>simp [Instr.sliceBounds,Instr.sliceBound,asIntOf,hjc,hic,hij',hj',h1]
  all_goals first | omega | simp [hij',hj',h1] | skip
 have hrun:∀w,(execOp ev o).run P w = .ok (.value (.slice (if c=i then A else A.map (·.add (i*n'))) (j-i) (c-i))) w:=λw=>by
  simp only [execOp,hop,l1,r1,e1,Option.map_none,Instr.sliceAt,Sem.run_bind,run_underlying ht.und,Result.andThen_ok,Instr.slice,hb,he.run_size,Sem.run_pure]
 have hlen:((rows.take (j:Int).toNat).drop (i:Int).toNat).length=j-i:=by simp;omega
 refine ⟨_,hrun,(if c=i then A else A.map (·.add (i*n'))),c-i,by rw [hlen],by rw [hlen];omega,by omega,λhp=>?_⟩
 rw [hlen] at hp
 obtain ⟨g,p,rfl,h5⟩:=h3 (by omega)
 refine ⟨g,p+i*n',?_,λk hk=>?_⟩
 .rw [if_neg (by omega)]
  simp [Addr.add_lit]
 .rw [hlen] at hk
  rw [show (j:Int).toNat=j from rfl,show (i:Int).toNat=i from rfl]
  rw [Nm,Nl (by omega)]
  have:=h5 (i+k) (by omega)
  rw [Nat.add_mul,<-Nat.add_assoc] at this
  exact this
theorem RW{α:Type}{x y:Operand}{t:TypeId}{e n b n' b' T sz i:Nat}{d:TypeDesc}{z z':Value}{f:α->List D}{l:List α}(hop:o.op = .slice t x (some y) none none)(hx:Ed hp (arg x)=some (slD T sz (l.map f)))(hy:arg y = .d (ex (.int .i64 (i:Nat))))(ht:Tab P t (.slice e) n b z)(he:Tab P e d n' b' z')(hsz:n'=sz)(hi:i<=l.length):PureQ P hp o arg (.d (slD T sz ((l.drop i).map f))):=by
 have h:=PureQ.slice (P:=P) (hp:=hp) (i:=(i:Nat)) (j:=((l.map f).length:Nat)) hop hx ht he hsz (.inl ⟨y,rfl,hy⟩) (.inr ⟨rfl,rfl⟩) (by omega) (by simp;omega) (by omega)
 have e1:((l.map f).take (((l.map f).length:Nat):Int).toNat).drop ((i:Nat):Int).toNat=(l.drop i).map f:=by
  rw [show (((l.map f).length:Nat):Int).toNat=(l.map f).length from rfl,List.take_length,List.map_drop]
  rfl
 rwa [e1] at h
end
structure AWy(P:Program)(s0:An)(n:Nat)(ops:Array Oper)(Q:Exit->AS->Prop)(fuel:Nat)(listed:Array Bool)(σ:AS):Prop where
 run:∀a w,St s0 n σ a w->wpAny P .any ops (FC s0 n (OnlyN Q)) fuel listed a w
def SB(ops:Array Oper):Array Bool->List Nat->Bool
 | listed,[]=>Region.ready .any ops listed==[]
 | listed,j::js=>Region.ready .any ops listed==[j]&&SB ops (listed.setIfInBounds j true) js
def Rp(ops:Array Oper)(js:List Nat):Bool:=js.all λj=>(ops[j]?).isSome
def OB(ops:Array Oper):List Nat->List Oper
 | []=>[]
 | j::js=>match ops[j]? with
  | some o=>o::OB ops js
  | none=>[]
theorem Lu{ops:Array Oper}:∀{js:List Nat},Rp ops js=true->js.map (λj=>ops[j]?)=(OB ops js).map some
 | [],_=>rfl
 | j::js,h=>by
  simp only [Rp,List.all_cons,Bool.and_eq_true] at h
  obtain ⟨o,ho⟩:=Option.isSome_iff_exists.1 h.1
  have ih:=Lu (js:=js) h.2
  simp only [OB,ho,List.map_cons,ih]
section
variable {P:Program} {s0:An} {n:Nat} {ops:Array Oper} {Q:Exit->AS->Prop} {fr:List (Nat×AV)} {hp:List Ow}
theorem AWp.any{id:Nat}{l:List Oper}{σ:AS}(hm:P.follows .mixedOrders=true)(h:AWy P s0 n l.toArray Q l.toArray.size (Array.replicate l.toArray.size false) σ):AWp P s0 n (.region id l.toArray true) Q σ:=by
 refine ⟨λa w ⟨s,ρ,hw,hst⟩=>?_⟩
 subst hw
 have hst':=hst.put (MB s) (dst:=none) (λd hd=>by cases hd) (v:=undef) (r:=.d Cp) trivial
 have h1:=h.run a s.w.drew ⟨s.dr,ρ,rfl,hst'⟩
 exact wp_mono (wp_region_any hm h1) λex a' w' ⟨σ',hq,hs⟩=>by
  obtain ⟨rfl,hq⟩:=hq
  exact ⟨σ',hq,hs⟩
theorem Fa{fuel:Nat}{listed:Array Bool}(i:Nat){o:Oper}{d:Nat}{r:AV}(hi:ops[i]? = some o)(hg:o.guard=none)(hdst:o.dst=some d)(hs:Region.noSelect ops=true)(hf:Region.free .any ops listed i=true)(hr:(Region.ready .any ops listed).contains i=true)(hd:Nat.blt d n=true)(hq:PureQ P hp o (AS.arg ⟨fr,hp⟩) r)(h:AWy P s0 n ops Q fuel (listed.setIfInBounds i true) ⟨(d,r)::fr,hp⟩):AWy P s0 n ops Q (fuel+1) listed ⟨fr,hp⟩:=by
 refine ⟨λa w ⟨s,ρ,hw,hst⟩=>?_⟩
 subst hw
 obtain ⟨v,h1,h2⟩:=hq.run 0 s ρ a.eval hst.ok (Nat.zero_le _) hst.hp λx _=>hst.arg x
 have hst':=hst.put (GS.Le.refl s) (dst:=some d) (λd' hd'=>by cases hd';simpa [Nat.blt_eq] using hd) h2
 refine wpAny_take hi hs hf hr (λc a w h=>?_) (.inl ⟨by simp [Region.wanted,hg],h1⟩) ?_
 .obtain ⟨_,h,_⟩:=h
  have:=h.how
  cases this
 .rw [hdst]
  exact h.run _ _ ⟨s,ρ,rfl,hst'⟩
theorem KG{ops:Array Oper}{Q:Exit->Act->World->Prop}:∀(js:List Nat) (L:List Oper) (listed:Array Bool) (a:Act) (w:World),SB ops listed js=true->js.map (λj=>ops[j]?)=L.map some->wpList P ops Q L a w->wpAny P .any ops Q js.length listed a w
 | [],[],listed,a,w,hs,_,h=>⟨by simpa [SB] using hs,h⟩
 | [],_::_,_,_,_,_,hl,_=>by simp at hl
 | _::_,[],_,_,_,_,hl,_=>by simp at hl
 | j::js,o::L,listed,a,w,hs,hl,h=>by
  simp only [SB,Bool.and_eq_true,beq_iff_eq] at hs
  simp only [List.map_cons,List.cons.injEq] at hl
  refine wpAny_all hs.1 (by simp) λi hi=>?_
  obtain rfl:i=j:=by simpa using hi
  unfold wpList at h
  unfold wpOp
  rw [hl.1]
  simp only
  split
  .rename_i hw
   rw [if_pos hw] at h
   exact h.imp (Oper.wp_mono λa w h=>KG js L _ a w hs.2 hl.2 h) λh=>h
  .rename_i hw
   rw [if_neg hw] at h
   exact KG js L _ _ w hs.2 hl.2 h
end
theorem Fr(b:Bool)(l:List Nat):Abs Tryz.prog 133 [ex (.bool b),wD l] (Bb (BL (Gn b (val l)))):=by
 refine Br (Az Tryz.func133 (by kernel_rfl) (by kernel_rfl)) λs vs hok hl hv=>?_
 rw [Wc hl]
 have e0:vs.getD 0 undef = .bool b:=hv 0 (by simp)
 rw [e0]
 exact (Ft b _ l s.w (Ds (hv 1 (by simp)))).mono λe w' ⟨y,Y,m,k,he,hI,hE⟩=>⟨_,he,hE,λs' hw hok' _ _=>by subst hw;exact Fl hok' hI⟩
theorem Sp{f:FuncId}{la lb lr:List Nat}(hcf:∀args w,(callFunc f args).run Tryz.prog w = .ok (.enter f args) w)(h:∀(va vb:Value) (w:World),Words w va la->Words w vb lb->Calls Tryz.prog f #[va,vb] w λe w'=>∃v',e = .returned v'/\Words w' v' lr/\Ext w w'):Abs Tryz.prog f [wD la,wD lb] (wD lr):=by
 refine Br hcf λs vs hok hl hv=>?_
 rw [Wc hl]
 exact (h _ _ s.w (Ds (hv 0 (by simp))) (Ds (hv 1 (by simp)))).mono λe w' ⟨v,he,hI,hE⟩=>⟨_,he,hE,λs' hw hok' _ _=>by subst hw;exact Gb hok' hI⟩
theorem Wi(x y:Nat)(hn:(As x).length<=4398046511104)(hm:(As y).length<=4398046511104):Abs Tryz.prog 146 [wD (As x),wD (As y)] (wD (As (x*y))):=
 Sp (Az Tryz.func146 (by kernel_rfl) (by kernel_rfl)) fun va vb w ha hb => by
  have:=Gy va vb _ _ w ha hb hn hm
  rwa [Aw,Aw] at this
theorem Xi(x y:Nat)(hn:(As x).length<=4398046511104)(hm:(As y).length<=4398046511104):Abs Tryz.prog 154 [wD (As x),wD (As y)] (wD (As (x+y))):=
 Sp (Az Tryz.func154 (by kernel_rfl) (by kernel_rfl)) fun va vb w ha hb => by
  have:=Tt va vb _ _ w ha hb hn hm
  rwa [Aw,Aw] at this
theorem MZ(x y:Nat)(h:y<=x)(hn:(As x).length<=4398046511104):Abs Tryz.prog 155 [wD (As x),wD (As y)] (wD (As (x-y))):=
 Sp (Az Tryz.func155 (by kernel_rfl) (by kernel_rfl)) fun va vb w ha hb => by
  have:=Mm va vb _ _ w ha hb (by rw [Aw,Aw];exact h) (BM h) hn
  rwa [Aw,Aw] at this
theorem Re(x y:Nat)(hn:(As x).length<=4398046511103)(h0:y≠0):Abs Tryz.prog 175 [wD (As x),wD (As y)] (BC [wD (As (x/y)),wD (As (x%y))]):=by
 refine Br (Az Tryz.func175 (by kernel_rfl) (by kernel_rfl)) λs vs hok hl hv=>?_
 rw [Wc hl]
 refine (Gz _ _ x y s.w (Ds (hv 0 (by simp))) (Ds (hv 1 (by simp))) hn h0).mono λe w' ⟨A,A',n,c,n',c',he,h1,h2,hE⟩=>⟨_,he,hE,λs' hw hok' _ _=>?_⟩
 subst hw
 refine ⟨_,rfl,rfl,λk hk=>?_⟩
 have hk:k<2:=hk
 match k,hk with
 | 0,_=>exact ⟨_,rfl,Gb hok' h1⟩
 | 1,_=>exact ⟨_,rfl,Gb hok' h2⟩
theorem EJ(x y:Int)(hn:(As x.natAbs).length<=4398046511104)(hn':(As y.natAbs).length<=4398046511104):Abs Tryz.prog 119 [Bb (BL x),Bb (BL y)] (Bb (BL (x*y))):=by
 have cm:=Fr (decide (x<0) != decide (y<0)) (As (x.natAbs*y.natAbs))
 rw [Aw,show Gn (decide (x<0) != decide (y<0)) (x.natAbs*y.natAbs)=x*y from OA x y] at cm
 refine Ab Tryz.func119 λs0=>?_
 rw [Tryz.ntmps119]
 apply Y1;refine Bx ?_;refine Bx ?_;refine Al ?_;refine Y0<|Aa ?_
 refine Dr [[],[(5,0)],[],[(7,2)],[(6,1),(8,3)],[],[(10,5)],[],[(12,7)],[(11,6),(13,8)],[(9,4),(14,9)]] [[],[0],[],[2],[0,1,2,3],[],[5],[],[7],[5,6,7,8],[0,1,2,3,4,5,6,7,8,9]] ?_
 refine Xq AL ?_;refine Xq AQ ?_;refine Xq AL ?_;refine Xq AQ ?_;refine Xq Kb ?_;refine Xq AL ?_;refine Xq AQ ?_;refine Xq AL ?_;refine Xq AQ ?_;refine Xq (Ad (Wi x.natAbs y.natAbs hn hn')) ?_;refine Xq (Ad (cm)) ?_;refine ⟨_,rfl,?_⟩
 refine Sf ?_;refine Y0<|Am ?_
 exact AN (Rets.of1 (ResV.cell rfl rfl (Ac rfl) rfl rfl rfl) (D.le.refl _))
theorem WD(x:Int):Abs Tryz.prog 152 [Bb (BL x)] (Bb (BL (-x))):=by
 have cm:=Fr (!decide (x<0)) (As x.natAbs)
 rw [Aw,UC] at cm
 refine Ab Tryz.func152 λs0=>?_
 rw [Tryz.ntmps152]
 apply Y1;refine Bx ?_;refine Al ?_;refine Y0<|Y1 ?_;refine Wq AL ?_;refine Wq AQ ?_;refine Wq BH ?_;refine Wq AL ?_;refine Wq AQ ?_;refine Wq (Ad (cm)) ?_;refine Sf ?_;refine Y0<|Am ?_
 exact AN (Rets.of1 (ResV.cell rfl rfl (Ac rfl) rfl rfl rfl) (D.le.refl _))
theorem WE(x y:Int)(hn:(As x.natAbs).length<=4398046511104)(hn':(As y.natAbs).length<=4398046511104):Abs Tryz.prog 132 [Bb (BL x),Bb (BL y)] (Bb (BL (x+y))):=by
 have cx:=Fr (decide (x<0))
 have cy:=Fr (decide (y<0))
 by_cases h:decide (x<0)=decide (y<0)
 .have hb:(decide (x<0)==decide (y<0))=true:=by simp [h]
  have c:=cx (As (x.natAbs+y.natAbs))
  rw [Aw,IU h] at c
  refine Ab Tryz.func132 λs0=>?_
  rw [Tryz.ntmps132]
  apply Y1;refine Bx ?_;refine Bx ?_;refine Al ?_;refine Y0<|Aa<|Y1 ?_;refine Wq AL ?_;refine Wq AQ ?_;refine Wq AL ?_;refine Wq AQ ?_;refine Wq Kc ?_;apply Y0;refine Sj (ao rfl) (decide_eq_true (by omega)) ?_;apply Aa
  refine Dr [[],[(10,0)],[],[(12,2)],[],[(14,4)],[(13,3),(15,5)],[(11,1),(16,6)]] [[],[0],[],[2],[],[4],[2,3,4,5],[0,1,2,3,4,5,6]] ?_
  refine Xq AL ?_;refine Xq AQ ?_;refine Xq AL ?_;refine Xq AQ ?_;refine Xq AL ?_;refine Xq AQ ?_;refine Xq (Ad (Xi x.natAbs y.natAbs hn hn')) ?_;refine Xq (Ad (c)) ?_;refine ⟨_,rfl,?_⟩
  refine Sf ?_;refine Y0<|Am<|AP ?_
  exact AN (Rets.of1 (ResV.cell rfl rfl (Ac rfl) rfl rfl rfl) (D.le.refl _))
 .have hb:(decide (x<0)==decide (y<0))=false:=by simp [h]
  by_cases hlt:x.natAbs<y.natAbs
  .have hc:DK x.natAbs y.natAbs<0:=by rw [DK, if_pos hlt]; decide
   have c:=cy (As (y.natAbs-x.natAbs))
   rw [Aw,Lr h (by omega)] at c
   refine Ab Tryz.func132 λs0=>?_
   rw [Tryz.ntmps132]
   apply Y1;refine Bx ?_;refine Bx ?_;refine Al ?_;refine Y0<|Aa<|Y1 ?_;refine Wq AL ?_;refine Wq AQ ?_;refine Wq AL ?_;refine Wq AQ ?_;refine Wq Kc ?_;apply Y0;refine Kt (ao rfl) (decide_eq_false (by omega)) ?_;refine Ys<|Aa<|Y1 ?_;refine Wq AL ?_;refine Wq AQ ?_;refine Wq AL ?_;refine Wq AQ ?_;refine Wq (Ad (Id x.natAbs y.natAbs)) ?_;refine Wq Ak ?_;refine Y0<|Ct<|Aa ?_
   refine Dr [[],[(24,0)],[],[(26,2)],[],[(28,4)],[(27,3),(29,5)],[(25,1),(30,6)]] [[],[0],[],[2],[],[4],[2,3,4,5],[0,1,2,3,4,5,6]] ?_
   refine Xq AL ?_;refine Xq AQ ?_;refine Xq AL ?_;refine Xq AQ ?_;refine Xq AL ?_;refine Xq AQ ?_;refine Xq (Ad (MZ y.natAbs x.natAbs (by omega) hn')) ?_;refine Xq (Ad (c)) ?_;refine ⟨_,rfl,?_⟩
   refine Sf ?_;refine Y0<|Am<|AP ?_
   exact AN (Rets.of1 (ResV.cell rfl rfl (Ac rfl) rfl rfl rfl) (D.le.refl _))
  .have hc:¬DK x.natAbs y.natAbs<0:=by rw [DK, if_neg hlt]; split<;>decide
   have c:=cx (As (x.natAbs-y.natAbs))
   rw [Aw,Ik h (by omega)] at c
   refine Ab Tryz.func132 λs0=>?_
   rw [Tryz.ntmps132]
   apply Y1;refine Bx ?_;refine Bx ?_;refine Al ?_;refine Y0<|Aa<|Y1 ?_;refine Wq AL ?_;refine Wq AQ ?_;refine Wq AL ?_;refine Wq AQ ?_;refine Wq Kc ?_;apply Y0;refine Kt (ao rfl) (decide_eq_false (by omega)) ?_;refine Ys<|Aa<|Y1 ?_;refine Wq AL ?_;refine Wq AQ ?_;refine Wq AL ?_;refine Wq AQ ?_;refine Wq (Ad (Id x.natAbs y.natAbs)) ?_;refine Wq Aj ?_;refine Y0<|Cf<|Ys<|Aa ?_
   refine Dr [[],[(32,0)],[],[(34,2)],[],[(36,4)],[(35,3),(37,5)],[(33,1),(38,6)]] [[],[0],[],[2],[],[4],[2,3,4,5],[0,1,2,3,4,5,6]] ?_
   refine Xq AL ?_;refine Xq AQ ?_;refine Xq AL ?_;refine Xq AQ ?_;refine Xq AL ?_;refine Xq AQ ?_;refine Xq (Ad (MZ x.natAbs y.natAbs (by omega) hn)) ?_;refine Xq (Ad (c)) ?_;refine ⟨_,rfl,?_⟩
   refine Sf ?_;refine Y0<|Am ?_
   exact AN (Rets.of1 (ResV.cell rfl rfl (Ac rfl) rfl rfl rfl) (D.le.refl _))
theorem Wp{fn:Func}{rv rv' rv3:ResultVar}(h:fn.results=#[rv,rv',rv3]){tmps:Array Value}{P:Program}{w:World}{v v' v3:Value}(hv:(DO tmps rv).run P w = .ok v w)(hv':(DO tmps rv').run P w = .ok v' w)(hv3:(DO tmps rv3).run P w = .ok v3 w):(results fn tmps).run P w = .ok (.tuple #[v,v',v3]) w:=by
 have key:(results fn tmps).run P w=((DO tmps rv).run P w).andThen λa w'=>((DO tmps rv').run P w').andThen λb w''=>((DO tmps rv3).run P w'').andThen λc w3=>.ok (.tuple #[a,b,c]) w3:=by
  unfold results
  rw [h]
  cases rv<;>cases rv'<;>cases rv3<;>simp [DO,Ic]
 rw [key,hv,Result.andThen_ok,hv',Result.andThen_ok,hv3,Result.andThen_ok]
theorem Ry{P:Program}{σ:AS}{rv rv' rv3:ResultVar}{x y z r:D}(h:ResV P σ rv x)(h':ResV P σ rv' y)(h3:ResV P σ rv3 z)(hl:D.le (BC [x,y,z]) r):Rets P σ #[rv,rv',rv3] r:=⟨λbase ρ s tmps fn hf hh hfr=>by
 obtain ⟨v,e1,e2⟩:=h.run base ρ s tmps hh hfr
 obtain ⟨v',e3,e4⟩:=h'.run base ρ s tmps hh hfr
 obtain ⟨v3,e5,e6⟩:=h3.run base ρ s tmps hh hfr
 refine ⟨_,Wp hf e1 e3 e5,hl s _ ⟨_,rfl,rfl,λk hk=>?_⟩⟩
 have hk:k<3:=hk
 match k,hk with
 | 0,_=>exact ⟨_,rfl,e2⟩
 | 1,_=>exact ⟨_,rfl,e4⟩
 | 2,_=>exact ⟨_,rfl,e6⟩⟩
theorem Zi(x y:Int)(hn:(As x.natAbs).length<=4398046511103)(hy:y≠0)(hr:x.natAbs%y.natAbs=0):Abs Tryz.prog 176 [Bb (BL x),Bb (BL y)] (BC [Bb (BL (x/y)),Bb (BL (x%y)),ex (.int .i64 0)]):=by
 have hl:¬(As y.natAbs).length=0:=λe=>hy (by have:=Bg.1 e;omega)
 have hd:=Rd hy (.inr hr)
 have cd:=Re x.natAbs y.natAbs hn (by omega)
 have c1:=Fr (decide (x<0) != decide (y<0)) (As (x.natAbs/y.natAbs))
 have c2:=Fr false (As (x.natAbs%y.natAbs))
 rw [Aw,show Gn (decide (x<0) != decide (y<0)) (x.natAbs/y.natAbs)=x/y from hd.1.symm] at c1
 rw [Aw,<-hd.2] at c2
 have h0:¬0<(As (x.natAbs%y.natAbs)).length:=by rw [hr,Bl];exact Nat.lt_irrefl 0
 by_cases hx:x<0
 .rw [decide_eq_true hx] at c1
  rw [show BL x=[ex (.bool true),wD (As x.natAbs)] by rw [BL,decide_eq_true hx]]
  refine Ab Tryz.func176 λs0=>?_
  rw [Tryz.ntmps176]
  apply Y1;refine Bx ?_;refine Bx ?_;refine Al ?_;refine Al ?_;refine Wa<|Y0<|Aa<|Y1 ?_;refine Wq AL ?_;refine Wq AQ ?_;refine Wq Jw ?_;refine Wq Aj ?_;refine Y0<|Cf<|Ys<|Y1 ?_;refine Wq AL ?_;refine Wq AQ ?_;refine Wq AL ?_;refine Wq AQ ?_;refine Wq (Ad (cd)) ?_;refine Wm ?_;refine Wq AI ?_;refine Wq AI ?_;refine Wa<|Wa<|Y0<|Aa<|Y1 ?_;refine Wq AL ?_;refine Wq AQ ?_;refine Wm ?_;refine Wg Af ?_;refine Wg Jw ?_;refine Wg Aj ?_;refine Wq AM ?_;refine Y0<|Cf<|Ys<|Y1 ?_;refine Wq AL ?_;refine Wq AQ ?_;refine Wq AL ?_;refine Wq AQ ?_;refine Wq Kb ?_;refine Wm ?_;refine Wq (Ad (c1)) ?_;refine Wm ?_;refine Wq (Ad (c2)) ?_;refine Sf ?_;refine Sf ?_;refine Wa<|Y0<|Am ?_
  exact AN (Ry (ResV.cell rfl rfl (Ac rfl) rfl rfl rfl) (ResV.cell rfl rfl (Ac rfl) rfl rfl rfl) (ResV.tmp rfl rfl) (D.le.refl _))
 .rw [decide_eq_false hx] at c1
  rw [show BL x=[ex (.bool false),wD (As x.natAbs)] by rw [BL,decide_eq_false hx]]
  refine Ab Tryz.func176 λs0=>?_
  rw [Tryz.ntmps176]
  apply Y1;refine Bx ?_;refine Bx ?_;refine Al ?_;refine Al ?_;refine Wa<|Y0<|Aa<|Y1 ?_;refine Wq AL ?_;refine Wq AQ ?_;refine Wq Jw ?_;refine Wq Aj ?_;refine Y0<|Cf<|Ys<|Y1 ?_;refine Wq AL ?_;refine Wq AQ ?_;refine Wq AL ?_;refine Wq AQ ?_;refine Wq (Ad (cd)) ?_;refine Wm ?_;refine Wq AI ?_;refine Wq AI ?_;refine Wa<|Wa<|Y0<|Aa<|Y1 ?_;refine Wq AL ?_;refine Wq AQ ?_;refine Wm ?_;refine Ws ?_;refine Ws ?_;refine Ws ?_;refine Wq Bc ?_;refine Y0<|Cf<|Ys<|Y1 ?_;refine Wq AL ?_;refine Wq AQ ?_;refine Wq AL ?_;refine Wq AQ ?_;refine Wq Kb ?_;refine Wm ?_;refine Wq (Ad (c1)) ?_;refine Wm ?_;refine Wq (Ad (c2)) ?_;refine Sf ?_;refine Sf ?_;refine Wa<|Y0<|Am ?_
  exact AN (Ry (ResV.cell rfl rfl (Ac rfl) rfl rfl rfl) (ResV.cell rfl rfl (Ac rfl) rfl rfl rfl) (ResV.tmp rfl rfl) (D.le.refl _))
theorem A3h{s':GS}{q r:Int}{w:World}{e:Ending}(h:A0k q r w e s'.w)(hok:s'.Ok):∃v,e = .returned v/\Ext w s'.w/\(BC [Bb (BL q),Bb (BL r),ex (.int .i64 0)]).rel s' v:=by
 obtain ⟨b,b',A,A',n,c,n',c',he,h1,h2,hE⟩:=h
 refine ⟨_,he,hE,_,rfl,rfl,λk hk=>?_⟩
 have hk:k<3:=hk
 match k,hk with
 | 0,_=>exact ⟨_,rfl,Fl hok h1⟩
 | 1,_=>exact ⟨_,rfl,Fl hok h2⟩
 | 2,_=>exact ⟨_,rfl,rfl⟩
theorem A3i{f:FuncId}{x y q r:Int}(hcf:∀args w,(callFunc f args).run Tryz.prog w = .ok (.enter f args) w)(h:∀(b b':Bool) (A A':Option Addr) (n c n' c':Nat) (w:World),IsInt w (.bool b) (.slice A n c) x->IsInt w (.bool b') (.slice A' n' c') y->Calls Tryz.prog f #[.agg #[.bool b,.slice A n c],.agg #[.bool b',.slice A' n' c']] w (A0k q r w)):Abs Tryz.prog f [Bb (BL x),Bb (BL y)] (BC [Bb (BL q),Bb (BL r),ex (.int .i64 0)]):=by
 refine Br hcf λs vs hok hl hv=>?_
 rw [Wc hl]
 obtain ⟨x0,X0,n0,c0,e0,h0⟩:=CY (hv 0 (by simp))
 obtain ⟨x1,X1,n1,c1,e1,h1⟩:=CY (hv 1 (by simp))
 rw [e0,e1]
 refine (h x0 x1 X0 X1 n0 c0 n1 c1 s.w h0 h1).mono λe w' hr=>?_
 obtain ⟨b,b',A,A',n,c,n',c',he,h1,h2,hE⟩:=id hr
 refine ⟨_,he,hE,λs' hw hok' _ _=>?_⟩
 subst hw
 obtain ⟨v,hv,_,h3⟩:=A3h hr hok'
 rw [he] at hv
 cases hv
 exact h3
theorem ZF{f:FuncId}{x y z:Int}(hcf:∀args w,(callFunc f args).run Tryz.prog w = .ok (.enter f args) w)(h:∀(b b':Bool) (A A':Option Addr) (n c n' c':Nat) (w:World),IsInt w (.bool b) (.slice A n c) x->IsInt w (.bool b') (.slice A' n' c') y->Calls Tryz.prog f #[.agg #[.bool b,.slice A n c],.agg #[.bool b',.slice A' n' c']] w (Es z w)):Abs Tryz.prog f [Bb (BL x),Bb (BL y)] (Bb (BL z)):=by
 refine Br hcf λs vs hok hl hv=>?_
 rw [Wc hl]
 obtain ⟨x0,X0,n0,c0,e0,h0⟩:=CY (hv 0 (by simp))
 obtain ⟨x1,X1,n1,c1,e1,h1⟩:=CY (hv 1 (by simp))
 rw [e0,e1]
 exact (h x0 x1 X0 X1 n0 c0 n1 c1 s.w h0 h1).mono λe w' ⟨y,Y,m,k,he,hI,hE⟩=>⟨_,he,hE,λs' hw hok' _ _=>by subst hw;exact Fl hok' hI⟩
theorem ZK(x y:Int)(hn:(As x.natAbs).length<=4398046511104)(hn':(As y.natAbs).length<=4398046511104):Abs Tryz.prog 161 [Bb (BL x),Bb (BL y)] (Bb (BL (x+y))):=
 ZF (Az Tryz.func161 (by kernel_rfl) (by kernel_rfl)) λb b' A A' n c n' c' w h h'=>A1Y b b' A A' n c n' c' x y w h h' hn hn'
theorem Vs(x y:Int)(hn:(As x.natAbs).length<=4398046511104)(hn':(As y.natAbs).length<=4398046511104)(hy:y≠0)(hr:x.natAbs%y.natAbs=0):Abs Tryz.prog 141 [Bb (BL x),Bb (BL y)] (BC [Bb (BL (x/y)),Bb (BL (x%y)),ex (.int .i64 0)]):=
 A3i (Az Tryz.func141 (by kernel_rfl) (by kernel_rfl)) λb b' A A' n c n' c' w h h'=>Pe b b' A A' n c n' c' x y w h h' hn hn' hy (.inr hr)
theorem CG{q:Rat}{n d:Int}(hn:q.num=n)(hd:(q.den:Int)=d):BL n++BL d=BT q:=by
 rw [BT,hn,hd]
 rfl
theorem Rf:As 1=[1]:=by rw [DU (by decide),show 1/BB=0 from rfl,Bl];rfl
theorem A1m{z:Int}(h:(As z.natAbs).length=1):(As z.natAbs).getD 0 0=z.natAbs:=by
 obtain ⟨w,hw⟩:∃w,As z.natAbs=[w]:=List.length_eq_one_iff.1 h
 have:=Aw z.natAbs
 rw [hw] at this ⊢
 have h2:w+BB*0=z.natAbs:=this
 show w=_
 omega
theorem A3e{z:Int}(h:z<0):BL z=[ex (.bool true),wD (As z.natAbs)]:=by rw [BL,decide_eq_true h]
theorem A3f{z:Int}(h:¬z<0):BL z=[ex (.bool false),wD (As z.natAbs)]:=by rw [BL,decide_eq_false h]
theorem KL(z:Int):Abs Tryz.prog 139 [Bb (BL z)] (ex (.bool (decide (z=1)))):=by
 by_cases hz:z<0
 .rw [decide_eq_false (show ¬z=1 by omega), A3e hz]
  refine Ab Tryz.func139 λs0=>?_
  rw [Tryz.ntmps139]
  apply Y1;refine Bx ?_;refine Wa<|Y0<|Y1 ?_;refine Wq AL ?_;refine Wq AQ ?_;refine Wq BH ?_;refine Wm ?_;refine Ws ?_;refine Ws ?_;refine Ws ?_;refine Ws ?_;refine Wq Bc ?_;refine Wm ?_;refine Ws ?_;refine Ws ?_;refine Ws ?_;refine Ws ?_;refine Ws ?_;refine Wq Bc ?_;refine Wa<|Y0<|Am ?_
  exact Yf
 .rw [A3f hz]
  by_cases h1:(As z.natAbs).length=1
  .have h2:=A1m h1
   have h0:(0:Nat)<(As z.natAbs).length:=by omega
   have hd:decide (z=1)=decide ((((As z.natAbs).getD 0 0:Nat):Int)=1):=decide_eq_decide.2 (by rw [h2];omega)
   rw [hd]
   refine Ab Tryz.func139 λs0=>?_
   rw [Tryz.ntmps139]
   apply Y1;refine Bx ?_;refine Wa<|Y0<|Y1 ?_;refine Wq AL ?_;refine Wq AQ ?_;refine Wq BH ?_;refine Wm ?_;refine Wg AL ?_;refine Wg AQ ?_;refine Wg Jw ?_;refine Wg Ak ?_;refine Wq AM ?_;refine Wm ?_;refine Wg AL ?_;refine Wg AQ ?_;refine Wg (XK (l:=As z.natAbs) (k:=0) (ao rfl) (ao rfl) (Ac rfl) (Ac rfl) h0) ?_;refine Wg CA ?_;refine Wg TF ?_;refine Wq AM ?_;refine Wa<|Y0<|Am ?_
   exact Yf
  .have hne:¬z=1:=λe=>h1 (by rw [e]; exact congrArg List.length Rf)
   rw [decide_eq_false hne]
   refine Ab Tryz.func139 λs0=>?_
   rw [Tryz.ntmps139]
   apply Y1;refine Bx ?_;refine Wa<|Y0<|Y1 ?_;refine Wq AL ?_;refine Wq AQ ?_;refine Wq BH ?_;refine Wm ?_;refine Wg AL ?_;refine Wg AQ ?_;refine Wg Jw ?_;refine Wg Aj ?_;refine Wq AM ?_;refine Wm ?_;refine Ws ?_;refine Ws ?_;refine Ws ?_;refine Ws ?_;refine Ws ?_;refine Wq Bc ?_;refine Wa<|Y0<|Am ?_
   exact Yf
theorem Wb(z:Int):Abs Tryz.prog 107 [Bb (BL z)] (Bb (BT (z:Rat))):=by
 refine Ab Tryz.func107 λs0=>?_
 rw [Tryz.ntmps107]
 apply Y1;refine Bx ?_;refine Al ?_;refine Y0<|Aa ?_
 refine Dr [[],[],[(3,0),(4,1)]] [[],[],[0,1]] ?_
 refine Xq At ?_;refine Xq (Ad (In 1 (by omega) (by omega))) ?_;(refine Hq rfl ?_;refine EZ (Ac rfl) rfl rfl rfl ?_;(repeat ((first | refine ⟨_,AW (ah rfl),?_⟩ | refine ⟨_,Po rfl,?_⟩);refine ⟨_,rfl,?_⟩));refine ⟨_,rfl,?_⟩;refine ⟨_,rfl,?_⟩);refine ⟨_,rfl,?_⟩
 refine Sf ?_;refine Y0<|Am ?_
 exact AN (Rets.of1 (ResV.cell rfl rfl (Ac rfl) rfl rfl rfl) (BJ (congrArg Bb (CG rfl rfl))))
theorem Ip(z:Int)(h0:-9223372036854775808<=z)(h1:z<=9223372036854775807):Abs Tryz.prog 60 [ex (.int .i64 z)] (Bb (BT (z:Rat))):=by
 refine Ab Tryz.func60 λs0=>?_
 rw [Tryz.ntmps60]
 apply Y1;refine Al ?_;refine Y0<|Y1<|Wm ?_;refine Wq (Ad (In z h0 h1)) ?_;refine Wq (Ad (Wb z)) ?_;refine Sf ?_;refine Y0<|Am ?_
 exact AN (Rets.of1 (ResV.cell rfl rfl (Ac rfl) rfl rfl rfl) (D.le.refl _))
theorem Ew(z:Int)(h0:-9223372036854775808<=z)(h1:z<=9223372036854775807):Abs Tryz.prog 43 [ex (.int .i64 z)] (Bb (BT (z:Rat))):=by
 refine Ab Tryz.func43 λs0=>?_
 rw [Tryz.ntmps43]
 apply Y1;refine Al ?_;refine Y0<|Y1<|Wm ?_;refine Wq (Ad (VK z h0 h1)) ?_;refine Wq (Ad (VK 1 (by omega) (by omega))) ?_;(refine CD rfl rfl ?_;(refine EZ (Ac rfl) rfl rfl rfl ?_;(repeat ((first | refine ⟨_,AW (ao rfl),?_⟩ | refine ⟨_,Po rfl,?_⟩);refine ⟨_,rfl,?_⟩));refine ⟨_,rfl,?_⟩));refine Sf ?_;refine Y0<|Am ?_
 exact AN (Rets.of1 (ResV.cell rfl rfl (Ac rfl) rfl rfl rfl) (BJ (congrArg Bb (CG rfl rfl))))
theorem Ev(p:Rat):Abs Tryz.prog 106 [Bb (BT p)] (ex (.int .i64 p.num.sign)):=by
 rw [<-CG (q:=p) rfl rfl]
 refine Ab Tryz.func106 λs0=>?_
 rw [Tryz.ntmps106]
 apply Y1;refine Bx ?_;refine Wa<|Y0<|Y1 ?_;refine Wq AL ?_;refine Wq At ?_;refine Wq (Ad (UD p.num)) ?_;refine Wa<|Y0<|Am ?_
 exact Yf
theorem SQ(p:Rat):Abs Tryz.prog 82 [Bb (BT p)] (ex (.int .i64 p.num.sign)):=by
 rw [<-CG (q:=p) rfl rfl]
 refine Ab Tryz.func82 λs0=>?_
 rw [Tryz.ntmps82]
 apply Y1;refine Bx ?_;refine Wa<|Y0<|Y1 ?_;refine Wq AL ?_;refine Wq At ?_;refine Wq (Ad (Ke p.num)) ?_;refine Wa<|Y0<|Am ?_
 exact Yf
theorem Je(x y:Int)(hn:(As x.natAbs).length<=4398046511104)(hn':(As y.natAbs).length<=4398046511104)(hy:0<y):Abs Tryz.prog 109 [Bb (BL x),Bb (BL y)] (Bb (BT (Rat.divInt x y))):=by
 have c1:=KL y
 by_cases h1:y=1
 .subst h1
  have hd:=Th x
  rw [decide_eq_true rfl] at c1
  refine Ab Tryz.func109 λs0=>?_
  rw [Tryz.ntmps109]
  apply Y1;refine Bx ?_;refine Bx ?_;refine Al ?_;refine Y0<|Aa<|Y1 ?_;refine Wq At ?_;refine Wq (Ad (c1)) ?_;refine Y0<|Ct<|Y1 ?_;refine Wq At ?_;refine Wq At ?_;(refine CD rfl rfl ?_;(refine EZ (Ac rfl) rfl rfl rfl ?_;(repeat ((first | refine ⟨_,AW (ao rfl),?_⟩ | refine ⟨_,Po rfl,?_⟩);refine ⟨_,rfl,?_⟩));refine ⟨_,rfl,?_⟩));refine Sf ?_;refine Y0<|Am<|AP ?_
  exact AN (Rets.of1 (ResV.cell rfl rfl (Ac rfl) rfl rfl rfl) (BJ (congrArg Bb (CG hd.1 hd.2))))
 .rw [decide_eq_false h1] at c1
  have cg:=A1H x y hn hn'
  have c2:=KL (Nat.gcd x.natAbs y.natAbs:Nat)
  have hp:=Db (x:=x) hy
  have hg0:0<Nat.gcd x.natAbs y.natAbs:=Nat.gcd_pos_of_pos_right _ (by omega)
  have hgl:(As ((Nat.gcd x.natAbs y.natAbs:Nat):Int).natAbs).length<=4398046511104:=Nat.le_trans (BM (Nat.le_of_dvd (by omega) (Nat.gcd_dvd_right _ _))) hn'
  by_cases h2:((Nat.gcd x.natAbs y.natAbs:Nat):Int)=1
  .have hd:=Mc (x:=x) hy (by omega)
   rw [decide_eq_true h2] at c2
   refine Ab Tryz.func109 λs0=>?_
   rw [Tryz.ntmps109]
   apply Y1;refine Bx ?_;refine Bx ?_;refine Al ?_;refine Y0<|Aa<|Y1 ?_;refine Wq At ?_;refine Wq (Ad (c1)) ?_;refine Y0<|Cf<|Ys<|Y1 ?_;refine Wq At ?_;refine Wq At ?_;refine Wq (Ad (cg)) ?_;refine Al ?_;refine Sf ?_;refine Y0<|Aa<|Y1 ?_;refine Wq At ?_;refine Wq (Ad (c2)) ?_;refine Y0<|Ct<|Y1 ?_;refine Wq At ?_;refine Wq At ?_;(refine CD rfl rfl ?_;(refine EZ (Ac rfl) rfl rfl rfl ?_;(repeat ((first | refine ⟨_,AW (ao rfl),?_⟩ | refine ⟨_,Po rfl,?_⟩);refine ⟨_,rfl,?_⟩));refine ⟨_,rfl,?_⟩));refine Sf ?_;refine Y0<|Am<|AP ?_
   exact AN (Rets.of1 (ResV.cell rfl rfl (Ac rfl) rfl rfl rfl) (BJ (congrArg Bb (CG hd.1 hd.2))))
  .rw [decide_eq_false h2] at c2
   have c3:=Vs x (Nat.gcd x.natAbs y.natAbs:Nat) hn hgl (by omega) (Nat.mod_eq_zero_of_dvd (Nat.gcd_dvd_left _ _))
   have c4:=Vs y (Nat.gcd x.natAbs y.natAbs:Nat) hn' hgl (by omega) (Nat.mod_eq_zero_of_dvd (Nat.gcd_dvd_right _ _))
   refine Ab Tryz.func109 λs0=>?_
   rw [Tryz.ntmps109]
   apply Y1;refine Bx ?_;refine Bx ?_;refine Al ?_;refine Y0<|Aa<|Y1 ?_;refine Wq At ?_;refine Wq (Ad (c1)) ?_;refine Y0<|Cf<|Ys<|Y1 ?_;refine Wq At ?_;refine Wq At ?_;refine Wq (Ad (cg)) ?_;refine Al ?_;refine Sf ?_;refine Y0<|Aa<|Y1 ?_;refine Wq At ?_;refine Wq (Ad (c2)) ?_;refine Y0<|Cf<|Ys<|Y1 ?_;refine Wq At ?_;refine Wq At ?_;refine Wq (Ad (c3)) ?_;refine Wm ?_;refine Wq AI ?_;refine Wq AI ?_;refine Wq AI ?_;refine Sf ?_;refine Y0<|Y1 ?_;refine Wq At ?_;refine Wq At ?_;refine Wq (Ad (c4)) ?_;refine Wm ?_;refine Wq AI ?_;refine Wq AI ?_;refine Wq AI ?_;refine Sf ?_;refine Y0<|Y1 ?_;refine Wq At ?_;refine Wq At ?_;(refine CD rfl rfl ?_;(refine EZ (Ac rfl) rfl rfl rfl ?_;(repeat ((first | refine ⟨_,AW (ao rfl),?_⟩ | refine ⟨_,Po rfl,?_⟩);refine ⟨_,rfl,?_⟩));refine ⟨_,rfl,?_⟩));refine Sf ?_;refine Y0<|Am ?_
   exact AN (Rets.of1 (ResV.cell rfl rfl (Ac rfl) rfl rfl rfl) (BJ (congrArg Bb (CG hp.1 hp.2))))
def pk(l:List Int):Nat->Int
 | 0=>1
 | k+1=>pk l k*l.getD k default
theorem GV(x y:Int)(N M:Nat)(hx:(As x.natAbs).length<=N)(hy:(As y.natAbs).length<=M)(hN:N<=4398046511104)(hM:M<=4398046511104):Abs Tryz.prog 162 [slD 69 2 ([x,y].map BL)] (Bb (BL (x*y))):=by
 have hpk:pk [x,y] 2=x*y:=by
  show 1*x*y=x*y
  rw [Int.one_mul]
 have hl1:(As (1:Int).natAbs).length<=1:=by rw [show (1:Int).natAbs=1 from rfl,Rf];exact Nat.le_refl 1
 refine Ab Tryz.func162 λs0=>?_
 rw [Tryz.ntmps162]
 apply Y1;refine Al ?_;refine Y0<|Y1 ?_;refine Wq (Ad (In 1 (by omega) (by omega))) ?_;refine Al ?_;refine Sf ?_;refine Y0<|Aa<|Y1<|Wm ?_;refine Wq AR ?_;refine Wm<|Y0<|AWp.block ?_
 refine AC (λmz σ=>∃k,k<=2/\mz=2-k/\σ=⟨[(2,.ptr 0 0),(3,.ptr 1 0),(7,.d (slD 69 2 ([x,y].map BL))),(8,.d (ex (.int .i64 ((2:Nat):Int)))),(9,.d (ex (.int .i64 (k:Nat))))],[.var 69 ([ex (.bool false),ex (.slice none 0 0)].map .d),.var 69 ((BL (pk [x,y] k)).map .d)]⟩) ?le ⟨0,by omega,rfl,rfl⟩ ?round
 case le=>exact Ah (by exact Yp<|Yp<|Yd<|Yd<|Yd<|FrLe.nil) (by exact Yv<|Yv<|HpLe.nil)
 case round=>
  rintro mz _ ⟨k,hk,rfl,rfl⟩
  by_cases hlt:k<2
  .have hk:k<[x,y].length:=hlt
   have hnx:pk [x,y] (k+1)=pk [x,y] k*[x,y].getD k default:=rfl
   have hlr:(As (pk [x,y] k).natAbs).length<=4398046511104:=by
    have:k=0\/k=1:=by omega
    rcases this with rfl | rfl
    .exact Nat.le_trans hl1 (by omega)
    .rw [show pk [x,y] 1=1*x from rfl,Int.one_mul];omega
   have hlv:(As ([x,y].getD k default).natAbs).length<=4398046511104:=by
    have:k=0\/k=1:=by omega
    rcases this with rfl | rfl
    .show (As x.natAbs).length<=_;omega
    .show (As y.natAbs).length<=_;omega
   have c1:=KL ([x,y].getD k default)
   have c2:=KL (pk [x,y] k)
   have c3:=A1v (pk [x,y] k) ([x,y].getD k default) hlr hlv
   by_cases h1:[x,y].getD k default=1
   .rw [decide_eq_true h1] at c1
    rw [h1,Int.mul_one] at hnx
    apply Y1;refine Wq Ak ?_;refine Y0<|Aa<|Ct<|Ys<|Aa<|AWp.block<|Y1 ?_;refine Wq AE ?_;refine Wq AB ?_;refine Al ?_;refine Sf ?_;refine Y0<|AWp.block<|Y1 ?_;refine Wq At ?_;refine Wq (Ad (c1)) ?_;refine Wa<|Y0<|Ct<|AWp.skip<|Ag<|Ag<|Yn<|AWp.region ?_;refine Wq AD ?_;refine Wm<|AWl.nil ?_
    refine ALoop.next (2-(k+1)) (by omega) ⟨k+1,by omega,rfl,rfl⟩ ?_
    exact Ah (by exact Yp<|Yp<|Yd<|Yd<|Yd<|FrLe.nil) (by exact Yv<|HpLe.cons (CQ (by rw [hnx]))<|HpLe.nil)
   .rw [decide_eq_false h1] at c1
    by_cases h2:pk [x,y] k=1
    .rw [decide_eq_true h2] at c2
     rw [h2,Int.one_mul] at hnx
     apply Y1;refine Wq Ak ?_;refine Y0<|Aa<|Ct<|Ys<|Aa<|AWp.block<|Y1 ?_;refine Wq AE ?_;refine Wq AB ?_;refine Al ?_;refine Sf ?_;refine Y0<|AWp.block<|Y1 ?_;refine Wq At ?_;refine Wq (Ad (c1)) ?_;refine Wa<|Y0<|Cf<|Y1 ?_;refine Wq At ?_;refine Wq (Ad (c2)) ?_;refine Wa<|Y0<|Ct<|AWp.region ?_;refine Wq At ?_;refine Sf ?_;refine AWl.nil<|Ag<|Ag<|Yn<|AWp.region ?_;refine Wq AD ?_;refine Wm<|AWl.nil ?_
     refine ALoop.next (2-(k+1)) (by omega) ⟨k+1,by omega,rfl,rfl⟩ ?_
     exact Ah (by exact Yp<|Yp<|Yd<|Yd<|Yd<|FrLe.nil) (by apply Yv;(refine HpLe.cons (CQ (by rw [hnx];rfl)) ?_);exact HpLe.nil)
    .rw [decide_eq_false h2] at c2
     apply Y1;refine Wq Ak ?_;refine Y0<|Aa<|Ct<|Ys<|Aa<|AWp.block<|Y1 ?_;refine Wq AE ?_;refine Wq AB ?_;refine Al ?_;refine Sf ?_;refine Y0<|AWp.block<|Y1 ?_;refine Wq At ?_;refine Wq (Ad (c1)) ?_;refine Wa<|Y0<|Cf<|Y1 ?_;refine Wq At ?_;refine Wq (Ad (c2)) ?_;refine Wa<|Y0<|Cf<|AWp.region ?_;refine Wq At ?_;refine Wq At ?_;refine Wq (Ad (c3)) ?_;refine Sf ?_;refine AWl.nil<|Ag<|Ag<|Yn<|AWp.region ?_;refine Wq AD ?_;refine Wm<|AWl.nil ?_
     refine ALoop.next (2-(k+1)) (by omega) ⟨k+1,by omega,rfl,rfl⟩ ?_
     exact Ah (by exact Yp<|Yp<|Yd<|Yd<|Yd<|FrLe.nil) (by exact Yv<|Yv<|HpLe.nil)
  .obtain rfl:k=2:=by omega
   rw [hpk]
   apply Y1;refine Wq Aj ?_;refine Y0<|Aa<|Cf<|AA<|Aq<|Ar<|ABlock.hit<|Yn<|Y1 ?_;refine Wq At ?_;refine Sf ?_;refine Y0<|Am ?_
   exact AN (Rets.of1 (ResV.cell rfl rfl (Ac rfl) rfl rfl rfl) (D.le.refl _))
theorem Zh(p q:Rat)(N M:Nat)(hp:RSz p N)(hq:RSz q M)(hN:N+M<=4398046511104):Abs Tryz.prog 145 [Bb (BT p),Bb (BT q)] (Bb (BT (p*q))):=by
 have h1:=p.den_pos
 have h2:=q.den_pos
 have hpd:=DG p hp
 have hqd:=DG q hq
 have hpn:(As p.num.natAbs).length<=N:=hp.1
 have hqn:(As q.num.natAbs).length<=M:=hq.1
 have c1:=Je p.num q.den (by omega) (by omega) (by omega)
 have c2:=Je q.num p.den (by omega) (by omega) (by omega)
 have hm:=Nu p q
 have z1:RSz (Rat.divInt p.num q.den) 4398046511104:=RSz.divInt (by omega) (by omega) (by omega)
 have z2:RSz (Rat.divInt q.num p.den) 4398046511104:=RSz.divInt (by omega) (by omega) (by omega)
 generalize Rat.divInt p.num q.den=u at c1 hm z1
 generalize Rat.divInt q.num p.den=v at c2 hm z2
 have c3:=GV u.num v.num _ _ z1.1 z2.1 (by omega) (by omega)
 have c4:=GV u.den v.den _ _ (DG u z1) (DG v z2) (by omega) (by omega)
 rw [<-CG (q:=p) rfl rfl,<-CG (q:=q) rfl rfl]
 rw [<-CG (q:=u) rfl rfl] at c1
 rw [<-CG (q:=v) rfl rfl] at c2
 refine Ab Tryz.func145 λs0=>?_
 rw [Tryz.ntmps145]
 apply Y1;refine Bx ?_;refine Bx ?_;refine Al ?_;refine Y0<|Y1 ?_;refine Wq AL ?_;refine Wq At ?_;refine Wq AL ?_;refine Wq At ?_;refine Wq (Ad (c1)) ?_;refine Al ?_;refine Sf ?_;refine Y0<|Y1 ?_;refine Wq AL ?_;refine Wq At ?_;refine Wq AL ?_;refine Wq At ?_;refine Wq (Ad (c2)) ?_;refine Al ?_;refine Sf ?_;refine Y0<|Aa ?_
 refine Dr [[],[(17,0)],[],[(19,2)],[(18,1),(20,3)],[(21,4)],[],[(23,6)],[],[(25,8)],[(24,7),(26,9)],[(27,10)],[(22,5),(28,11)]] [[],[0],[],[2],[0,1,2,3],[0,1,2,3,4],[],[6],[],[8],[6,7,8,9],[0,1,2,3,4,5,6,7,8,9,10],[0,1,2,3,4,5,6,7,8,9,10,11]] ?_
 refine Xq AL ?_;refine Xq At ?_;refine Xq AL ?_;refine Xq At ?_;(refine Hq rfl ?_;refine Cl (Ac rfl) (Ac rfl) rfl rfl rfl rfl rfl ?_;(repeat ((first | refine ⟨_,AW (ah rfl),?_⟩ | refine ⟨_,Po rfl,?_⟩);refine ⟨_,rfl,?_⟩));refine ⟨_,rfl,?_⟩;refine ⟨_,rfl,?_⟩);refine Xq (Ad (c3)) ?_;refine Xq AL ?_;refine Xq At ?_;refine Xq AL ?_;refine Xq At ?_;(refine Hq rfl ?_;refine Cl (Ac rfl) (Ac rfl) rfl rfl rfl rfl rfl ?_;(repeat ((first | refine ⟨_,AW (ah rfl),?_⟩ | refine ⟨_,Po rfl,?_⟩);refine ⟨_,rfl,?_⟩));refine ⟨_,rfl,?_⟩;refine ⟨_,rfl,?_⟩);refine Xq (Ad (c4)) ?_;(refine Hq rfl ?_;refine EZ (Ac rfl) rfl rfl rfl ?_;(repeat ((first | refine ⟨_,AW (ah rfl),?_⟩ | refine ⟨_,Po rfl,?_⟩);refine ⟨_,rfl,?_⟩));refine ⟨_,rfl,?_⟩;refine ⟨_,rfl,?_⟩);refine ⟨_,rfl,?_⟩
 refine Sf ?_;refine Y0<|Am ?_
 exact AN (Rets.of1 (ResV.cell rfl rfl (Ac rfl) rfl rfl rfl) (BJ (congrArg Bb (CG hm.1 (by rw [hm.2];push_cast;rfl)))))
theorem Zl(p q:Rat)(N M:Nat)(hp:RSz p N)(hq:RSz q M)(hN:N+M+1<=4398046511104):Abs Tryz.prog 144 [Bb (BT p),Bb (BT q)] (Bb (BT (p+q))):=by
 have h1:=p.den_pos
 have h2:=q.den_pos
 have hpd:=DG p hp
 have hqd:=DG q hq
 have hpn:(As p.num.natAbs).length<=N:=hp.1
 have hqn:(As q.num.natAbs).length<=M:=hq.1
 have l1:=DZ hpn hqd
 have l2:=DZ hqn hpd
 have l3:=DZ hpd hqd
 have l4:=OW l1 (Nat.le_trans l2 (by omega))
 have c1:=GV p.num q.den _ _ hpn hqd (by omega) (by omega)
 have c2:=GV q.num p.den _ _ hqn hpd (by omega) (by omega)
 have c3:=ZK (p.num*q.den) (q.num*p.den) (by omega) (by omega)
 have c4:=GV p.den q.den _ _ hpd hqd (by omega) (by omega)
 have c5:=Je (p.num*q.den+q.num*p.den) ((p.den:Int)*q.den) (by omega) (by omega) (Int.mul_pos (by omega) (by omega))
 rw [<-JY] at c5
 rw [<-CG (q:=p) rfl rfl,<-CG (q:=q) rfl rfl]
 refine Ab Tryz.func144 λs0=>?_
 rw [Tryz.ntmps144]
 apply Y1;refine Bx ?_;refine Bx ?_;refine Al ?_;refine Y0<|Aa ?_
 refine Dr [[],[(6,0)],[],[(8,2)],[(7,1),(9,3)],[(10,4)],[],[(12,6)],[],[(14,8)],[(13,7),(15,9)],[(16,10)],[(11,5),(17,11)],[]] [[],[0],[],[2],[0,1,2,3],[0,1,2,3,4],[],[6],[],[8],[6,7,8,9],[0,1,2,3,4,5,6,7,8,9,10],[0,1,2,3,4,5,6,7,8,9,10,11],[]] ?_
 refine Xq AL ?_;refine Xq At ?_;refine Xq AL ?_;refine Xq At ?_;(refine Hq rfl ?_;refine Cl (Ac rfl) (Ac rfl) rfl rfl rfl rfl rfl ?_;(repeat ((first | refine ⟨_,AW (ah rfl),?_⟩ | refine ⟨_,Po rfl,?_⟩);refine ⟨_,rfl,?_⟩));refine ⟨_,rfl,?_⟩;refine ⟨_,rfl,?_⟩);refine Xq (Ad (c1)) ?_;refine Xq AL ?_;refine Xq At ?_;refine Xq AL ?_;refine Xq At ?_;(refine Hq rfl ?_;refine Cl (Ac rfl) (Ac rfl) rfl rfl rfl rfl rfl ?_;(repeat ((first | refine ⟨_,AW (ah rfl),?_⟩ | refine ⟨_,Po rfl,?_⟩);refine ⟨_,rfl,?_⟩));refine ⟨_,rfl,?_⟩;refine ⟨_,rfl,?_⟩);refine Xq (Ad (c2)) ?_;refine Xq (Ad (c3)) ?_;refine Xn ?_;refine ⟨_,rfl,?_⟩
 refine Sf ?_;refine Y0<|Aa ?_
 refine Dr [[],[],[(20,1)],[],[(22,3)],[(21,2),(23,4)],[(24,5)],[(19,0),(25,6)]] [[],[],[1],[],[3],[1,2,3,4],[1,2,3,4,5],[0,1,2,3,4,5,6]] ?_
 refine Xq At ?_;refine Xq AL ?_;refine Xq At ?_;refine Xq AL ?_;refine Xq At ?_;(refine Hq rfl ?_;refine Cl (Ac rfl) (Ac rfl) rfl rfl rfl rfl rfl ?_;(repeat ((first | refine ⟨_,AW (ah rfl),?_⟩ | refine ⟨_,Po rfl,?_⟩);refine ⟨_,rfl,?_⟩));refine ⟨_,rfl,?_⟩;refine ⟨_,rfl,?_⟩);refine Xq (Ad (c4)) ?_;refine Xq (Ad (c5)) ?_;refine ⟨_,rfl,?_⟩
 refine Sf ?_;refine Y0<|Am ?_
 exact AN (Rets.of1 (ResV.cell rfl rfl (Ac rfl) rfl rfl rfl) (D.le.refl _))
theorem VL(x g:Int)(hn:(As x.natAbs).length<=4398046511103)(hg:g≠0)(hr:x.natAbs%g.natAbs=0):Abs Tryz.prog 153 [Bb (BL x),Bb (BL g)] (Bb (BL (x/g))):=by
 refine Ab Tryz.func153 λs0=>?_
 rw [Tryz.ntmps153]
 apply Y1;refine Bx ?_;refine Bx ?_;refine Al ?_;refine Y0<|Y1 ?_;refine Wq At ?_;refine Wq At ?_;refine Wq (Ad (Zi x g hn hg hr)) ?_;refine Wm ?_;refine Wq AI ?_;refine Wq AI ?_;refine Wq AI ?_;refine Al ?_;refine Al ?_;refine Sf ?_;refine Sf ?_;refine Wa<|Y0<|Y1 ?_;refine Wq At ?_;refine Sf ?_;refine Y0<|Am ?_
 exact AN (Rets.of1 (ResV.cell rfl rfl (Ac rfl) rfl rfl rfl) (D.le.refl _))
theorem Mn(x y:Int)(hn:(As x.natAbs).length<=4398046511103)(hn':(As y.natAbs).length<=4398046511103)(hy:y≠0):Abs Tryz.prog 131 [Bb (BL x),Bb (BL y)] (Bb (BT (Rat.divInt x y))):=by
 have hp:=SY (x:=x) hy
 have hg0:=A1C (x:=x) hy
 have cg:=A0i x y hn hn'
 have cs:=Ke y
 have hgn:(JT x y).natAbs=Nat.gcd x.natAbs y.natAbs:=by
  unfold JT
  split<;>omega
 have c1:=VL x (JT x y) hn hg0 (by rw [hgn];exact Nat.mod_eq_zero_of_dvd (Nat.gcd_dvd_left _ _))
 have c2:=VL y (JT x y) hn' hg0 (by rw [hgn];exact Nat.mod_eq_zero_of_dvd (Nat.gcd_dvd_right _ _))
 by_cases h:y<0
 .have hs:y.sign<0:=by rw [Int.sign_eq_neg_one_of_neg h]; decide
  have cn:=WD (Nat.gcd x.natAbs y.natAbs:Nat)
  rw [show -((Nat.gcd x.natAbs y.natAbs:Nat):Int)=JT x y by rw [JT,if_pos h]] at cn
  refine Ab Tryz.func131 λs0=>?_
  rw [Tryz.ntmps131]
  apply Y1;refine Bx ?_;refine Bx ?_;refine Al ?_;refine Y0<|Y1 ?_;refine Wq At ?_;refine Wq At ?_;refine Wq (Ad (cg)) ?_;refine Al ?_;refine Sf ?_;refine Y0<|Aa<|Y1 ?_;refine Wq At ?_;refine Wq (Ad (cs)) ?_;refine Wq Ak ?_;refine Y0<|Ct<|AWp.region ?_;refine Wq At ?_;refine Wq (Ad (cn)) ?_;refine Sf ?_;refine Y0<|Aa ?_
  refine Dr [[],[],[(14,0),(15,1)],[],[],[(17,3),(18,4)],[(16,2),(19,5)]] [[],[],[0,1],[],[],[0,1,2,3,4],[0,1,2,3,4,5]] ?_
  refine Xq At ?_;refine Xq At ?_;refine Xq (Ad (c1)) ?_;refine Xq At ?_;refine Xq At ?_;refine Xq (Ad (c2)) ?_;(refine Hq rfl ?_;refine EZ (Ac rfl) rfl rfl rfl ?_;(repeat ((first | refine ⟨_,AW (ah rfl),?_⟩ | refine ⟨_,Po rfl,?_⟩);refine ⟨_,rfl,?_⟩));refine ⟨_,rfl,?_⟩;refine ⟨_,rfl,?_⟩);refine ⟨_,rfl,?_⟩
  refine Sf ?_;refine Y0<|Am ?_
  exact AN (Rets.of1 (ResV.cell rfl rfl (Ac rfl) rfl rfl rfl) (BJ (congrArg Bb (CG hp.1 hp.2))))
 .have hs:¬y.sign<0:=by rw [Int.sign_eq_one_of_pos (by omega)]; decide
  rw [show JT x y=((Nat.gcd x.natAbs y.natAbs:Nat):Int) by rw [JT,if_neg h]] at c1 c2 hp
  refine Ab Tryz.func131 λs0=>?_
  rw [Tryz.ntmps131]
  apply Y1;refine Bx ?_;refine Bx ?_;refine Al ?_;refine Y0<|Y1 ?_;refine Wq At ?_;refine Wq At ?_;refine Wq (Ad (cg)) ?_;refine Al ?_;refine Sf ?_;refine Y0<|Aa<|Y1 ?_;refine Wq At ?_;refine Wq (Ad (cs)) ?_;refine Wq Aj ?_;refine Y0<|Cf<|Ys<|Aa ?_
  refine Dr [[],[],[(14,0),(15,1)],[],[],[(17,3),(18,4)],[(16,2),(19,5)]] [[],[],[0,1],[],[],[0,1,2,3,4],[0,1,2,3,4,5]] ?_
  refine Xq At ?_;refine Xq At ?_;refine Xq (Ad (c1)) ?_;refine Xq At ?_;refine Xq At ?_;refine Xq (Ad (c2)) ?_;(refine Hq rfl ?_;refine EZ (Ac rfl) rfl rfl rfl ?_;(repeat ((first | refine ⟨_,AW (ah rfl),?_⟩ | refine ⟨_,Po rfl,?_⟩);refine ⟨_,rfl,?_⟩));refine ⟨_,rfl,?_⟩;refine ⟨_,rfl,?_⟩);refine ⟨_,rfl,?_⟩
  refine Sf ?_;refine Y0<|Am ?_
  exact AN (Rets.of1 (ResV.cell rfl rfl (Ac rfl) rfl rfl rfl) (BJ (congrArg Bb (CG hp.1 hp.2))))
theorem WA(x y:Int)(hn:(As x.natAbs).length<=4398046511103)(hn':(As y.natAbs).length<=4398046511103)(hy:y≠0):Abs Tryz.prog 118 [Bb (BL x),Bb (BL y)] (BC [Bb (BT (Rat.divInt x y)),ex (.int .i64 0)]):=by
 have hs:¬y.sign=0:=λh=>hy (Int.sign_eq_zero_iff_zero.1 h)
 refine Ab Tryz.func118 λs0=>?_
 rw [Tryz.ntmps118]
 apply Y1;refine Bx ?_;refine Bx ?_;refine Al ?_;refine Wa<|Y0<|Aa<|Y1 ?_;refine Wq At ?_;refine Wq (Ad (Ke y)) ?_;refine Wq Aj ?_;refine Y0<|Cf<|Ys<|Y1 ?_;refine Wq At ?_;refine Wq At ?_;refine Wq (Ad (Mn x y hn hn' hy)) ?_;refine Sf ?_;refine Wa<|Y0<|Am ?_
 exact AN (BA (ResV.cell rfl rfl (Ac rfl) rfl rfl rfl) (ResV.tmp rfl rfl) (Be (D.le.refl _) (D.le.refl _)))
theorem WB(p q:Rat)(N M:Nat)(hp:RSz p N)(hq:RSz q M)(hN:N+M<=4398046511103):Abs Tryz.prog 85 [Bb (BT p),Bb (BT q)] (Bb (BT (p*q))):=by
 have h1:=p.den_pos
 have h2:=q.den_pos
 have hpd:=DG p hp
 have hqd:=DG q hq
 have hpn:(As p.num.natAbs).length<=N:=hp.1
 have hqn:(As q.num.natAbs).length<=M:=hq.1
 have l1:=DZ hpn hqn
 have l2:=DZ hpd hqd
 have hd:((p.den:Int)*q.den)≠0:=Int.mul_ne_zero (by omega) (by omega)
 have c1:=EJ p.num q.num (by omega) (by omega)
 have c2:=EJ p.den q.den (by omega) (by omega)
 have c3:=Mn (p.num*q.num) ((p.den:Int)*q.den) (by omega) (by omega) hd
 rw [<-SR] at c3
 rw [<-CG (q:=p) rfl rfl,<-CG (q:=q) rfl rfl]
 refine Ab Tryz.func85 λs0=>?_
 rw [Tryz.ntmps85]
 apply Y1;refine Bx ?_;refine Bx ?_;refine Al ?_;refine Y0<|Aa ?_
 refine Dr [[],[(5,0)],[],[(7,2)],[(6,1),(8,3)],[],[(10,5)],[],[(12,7)],[(11,6),(13,8)],[(9,4),(14,9)]] [[],[0],[],[2],[0,1,2,3],[],[5],[],[7],[0,1,2,3,4,5,6,7,8],[0,1,2,3,4,5,6,7,8,9]] ?_
 refine Xq AL ?_;refine Xq At ?_;refine Xq AL ?_;refine Xq At ?_;refine Xq (Ad (c1)) ?_;refine Xq AL ?_;refine Xq At ?_;refine Xq AL ?_;refine Xq At ?_;refine Xq (Ad (c2)) ?_;refine Xq (Ad (c3)) ?_;refine ⟨_,rfl,?_⟩
 refine Sf ?_;refine Y0<|Am ?_
 exact AN (Rets.of1 (ResV.cell rfl rfl (Ac rfl) rfl rfl rfl) (D.le.refl _))
theorem WC(p q:Rat)(N M:Nat)(hp:RSz p N)(hq:RSz q M)(hN:N+M+1<=4398046511103):Abs Tryz.prog 84 [Bb (BT p),Bb (BT q)] (Bb (BT (p+q))):=by
 have h1:=p.den_pos
 have h2:=q.den_pos
 have hpd:=DG p hp
 have hqd:=DG q hq
 have hpn:(As p.num.natAbs).length<=N:=hp.1
 have hqn:(As q.num.natAbs).length<=M:=hq.1
 have l1:=DZ hpn hqd
 have l2:=DZ hqn hpd
 have l3:=DZ hpd hqd
 have l4:=OW l1 (Nat.le_trans l2 (by omega))
 have hd:((p.den:Int)*q.den)≠0:=Int.mul_ne_zero (by omega) (by omega)
 have c1:=EJ p.num q.den (by omega) (by omega)
 have c2:=EJ q.num p.den (by omega) (by omega)
 have c3:=WE (p.num*q.den) (q.num*p.den) (by omega) (by omega)
 have c4:=EJ p.den q.den (by omega) (by omega)
 have c5:=Mn (p.num*q.den+q.num*p.den) ((p.den:Int)*q.den) (by omega) (by omega) hd
 rw [<-JY] at c5
 rw [<-CG (q:=p) rfl rfl,<-CG (q:=q) rfl rfl]
 refine Ab Tryz.func84 λs0=>?_
 rw [Tryz.ntmps84]
 apply Y1;refine Bx ?_;refine Bx ?_;refine Al ?_;refine Y0<|Aa ?_
 refine Dr [[],[(5,0)],[],[(7,2)],[(6,1),(8,3)],[],[(10,5)],[],[(12,7)],[(11,6),(13,8)],[(9,4),(14,9)],[],[(16,11)],[],[(18,13)],[(17,12),(19,14)],[(15,10),(20,15)]] [[],[0],[],[2],[0,1,2,3],[],[5],[],[7],[0,1,2,3,4,5,6,7,8],[0,1,2,3,4,5,6,7,8,9],[],[11],[],[13],[0,1,2,3,4,5,6,7,8,9,10,11,12,13,14],[0,1,2,3,4,5,6,7,8,9,10,11,12,13,14,15]] ?_
 refine Xq AL ?_;refine Xq At ?_;refine Xq AL ?_;refine Xq At ?_;refine Xq (Ad (c1)) ?_;refine Xq AL ?_;refine Xq At ?_;refine Xq AL ?_;refine Xq At ?_;refine Xq (Ad (c2)) ?_;refine Xq (Ad (c3)) ?_;refine Xq AL ?_;refine Xq At ?_;refine Xq AL ?_;refine Xq At ?_;refine Xq (Ad (c4)) ?_;refine Xq (Ad (c5)) ?_;refine ⟨_,rfl,?_⟩
 refine Sf ?_;refine Y0<|Am ?_
 exact AN (Rets.of1 (ResV.cell rfl rfl (Ac rfl) rfl rfl rfl) (D.le.refl _))
theorem Ps(a:Nat->Int)(h:In8 a 0 65535):Abs Tryz.prog 97 [Bb (AK a)] (ex (.bool true)):=by
 refine Ab Tryz.func97 λs0=>?_
 rw [Tryz.ntmps97]
 apply Y1;refine Bx ?_;refine Wa<|Y0<|Aa<|Y1<|Wa<|Y0<|AWp.block ?_
 refine AC (λmz σ=>∃k,k<=8/\mz=8-k/\σ=⟨[(1,.ptr 0 0),(2,.d (ex (.bool false))),(3,.d (ex (.int .i64 (k:Nat))))],[.var 55 ((AK a).map .d)]⟩) ?le ⟨0,by omega,rfl,rfl⟩ ?round
 case le=>exact Ah (by exact Yp<|Yd<|Yd<|FrLe.nil) (by exact Yv<|HpLe.nil)
 case round=>
  rintro mz _ ⟨k,hk,rfl,rfl⟩
  by_cases hlt:k<8
  .have hk':=h k hlt
   refine Aa<|Y1<|Wm ?_;refine Wq Ak ?_;refine Y0<|Ct<|Ys<|Aa<|AWp.block<|Y1<|Wm ?_;refine Wq BE ?_;refine Wq BI ?_;refine Wq Aj ?_;refine Wm ?_;refine Wg Af ?_;refine Wg BE ?_;refine Wg BI ?_;refine Wg Aj ?_;refine Wq Bc ?_;refine Y0<|Cf<|AWp.skip<|Ag<|Yn<|AWp.region<|Wm ?_;refine Wq AD ?_;refine Wa<|AWl.nil ?_
   refine ALoop.next (8-(k+1)) (by omega) ⟨k+1,by omega,rfl,rfl⟩ ?_
   exact Ah (by exact Yp<|Yd<|Yd<|FrLe.nil) (by exact Yv<|HpLe.nil)
  .obtain rfl:k=8:=by omega
   refine Aa<|Y1<|Wm ?_;refine Wq Aj ?_;refine Y0<|Cf<|AA<|Aq<|Ar<|ABlock.hit<|Yn<|Y1<|Wa<|Y0<|Am ?_
   exact Yf
end Go.Proofs.YtialdhnijjnpaaaGreat
