/- Part 19 of the proof of hilbertMatchesReference_holds. No condition. -/
import Derived.Deep.Upon
import Derived.Lib.SliceRun
import Derived.Test.YtialdhnijjnpaaaGreatQg18
set_option linter.unusedSimpArgs false
set_option linter.unusedVariables false
set_option maxRecDepth 100000
set_option maxHeartbeats 4000000
namespace Go.Proofs.YtialdhnijjnpaaaGreat
open Go.RowKit
theorem MR{P:Program}{s0:An}{n:Nat}{id:Nat}{e e2:Nat}{L L1 L':List Oper}{Q:Exit->AS->Prop}(hm:P.follows .mixedOrders=true)(hL:AddE e L L1)(hb:LS e L L1=true)(hL2:AddE e2 L1 L')(hb2:LS e2 L1 L'=true):DrawOk P s0 n id L.toArray L' Q (OnlyN Q):=⟨λa w h=>by
 have hfz:∀j,(Array.replicate L.toArray.size false).getD j false=false:=λj=>by
  rcases Nat.lt_or_ge j L.length with h | h
  .simp [h]
  .simp [h]
 have hs:L'.toArray.size=L.toArray.size:=by simp [hL.length,hL2.length]
 rw [hs] at h
 have hp:∀c a w,¬FC s0 n (OnlyN Q) (.panic c) a w:=λc a w ⟨σ,h,_⟩=>by have:=h.how;cases this
 have hl:¬LetsOut (FC s0 n (OnlyN Q)):=λ⟨a,w,σ,h,_⟩=>by have:=h.how;cases this
 have h0:=GL hL2 hb2 hp hl _ _ _ _ (by simp [hL.length]) (λj o _ hl=>by rw [hfz] at hl;cases hl) h
 have h1:=GL hL hb hp hl _ _ _ _ (by simp) (λj o _ hl=>by rw [hfz] at hl;cases hl) h0
 exact wp_mono (wp_region_any hm h1) λex a' w' ⟨σ,h,hs⟩=>by
  obtain ⟨rfl,h⟩:=h
  exact ⟨σ,h,hs⟩⟩
def A2N:D:=⟨λ_ v=>∃b,v = .bool b,λh _=>h⟩
section
variable {P:Program} {hp:List Ow} {arg:Operand->AV} {dd:Option Tmp} {ty:TypeId} {ps:String} {af:Array Edge} {gd:Option (Nat×Bool)}
theorem NX{x y:Operand}{U T sz t e n b:Nat}{z:Value}{rows:List (List D)}(hx:Ed hp (arg x)=some (slD T sz rows))(hy:arg y = .d (ex (.slice none 0 0)))(ht:Tab P t (.slice e) n b z)(h0:0<rows.length):Quiet P hp ⟨dd,.binOp .eql t x y U,ty,ps,af,gd⟩ arg (.d (ex (.bool false))):=by
 refine ⟨λbase s ρ ev hok hbs hhp h=>?_⟩
 have h1:=h x (by simp [Op.operands])
 have h2:=h y (by simp [Op.operands])
 rw [hy] at h2
 have e2:ev y = .slice none 0 0:=h2
 obtain ⟨A,c,e1,_,_,h3⟩:=BW hhp h1 hx
 obtain ⟨g,o,rfl,_⟩:=h3 h0
 have hq:=Go.Lib.run_eql_slice_nil (P:=P) s.w t e (some ⟨g,o,none⟩) rows.length c 0 0 ht.und
 refine Bk (v:=.bool false) ?_ ⟨GS.Le.refl s,rfl⟩
 simp [execOp,e1,e2,eqGuard,hq]
theorem XM{x y:Operand}{U T sz t e n b:Nat}{z:Value}(hx:Ed hp (arg x)=some (slD T sz []))(hy:arg y = .d (ex (.slice none 0 0)))(ht:Tab P t (.slice e) n b z):Quiet P hp ⟨dd,.binOp .eql t x y U,ty,ps,af,gd⟩ arg (.d A2N):=by
 refine ⟨λbase s ρ ev hok hbs hhp h=>?_⟩
 have h1:=h x (by simp [Op.operands])
 have h2:=h y (by simp [Op.operands])
 rw [hy] at h2
 have e2:ev y = .slice none 0 0:=h2
 obtain ⟨A,c,e1,_,_,h3⟩:=BW hhp h1 hx
 have e1:ev x = .slice A 0 c:=e1
 have hq:=Go.Lib.run_eql_slice_nil (P:=P) s.w t e A 0 c 0 0 ht.und
 refine Bk (v:=.bool A.isNone) ?_ ⟨GS.Le.refl s,_,rfl⟩
 simp [execOp,e1,e2,eqGuard,hq]
theorem A2g{x y:Operand}{t T T2 sz bytes id m b:Nat}{z z':Value}{d:TypeDesc}{rows:List (List D)}(hx:arg x = .own id)(hh:hp[id]? = some (.row T sz rows))(hy:Ed hp (arg y)=some (slD T2 sz []))(ht:Tab P t (.slice T) m b z')(hT:Tab P T d sz bytes z):Quiet P hp ⟨dd,.call { callee:=.builtin .append,args:=#[x,y],argTypes:=#[t,t] },ty,ps,af,gd⟩ arg (.own id):=by
 refine ⟨λbase s ρ ev hok hbs hhp h=>?_⟩
 have h1:=h x (by simp [Op.operands,Call.operands])
 have h2:=h y (by simp [Op.operands,Call.operands])
 rw [hx] at h1
 obtain ⟨hid,e1⟩:=h1
 obtain ⟨A,c,e2,_,_,_⟩:=BW hhp h2 hy
 obtain ⟨xs,⟨_,g2⟩,_⟩:=hhp id _ hh
 obtain ⟨i,hi,hz,hsize,hby⟩:=hT.info
 have hs:Src P i.size t (.slice A ([]:List (List D)).length c) 0 [] s.w:=by
  cases A with
  | none=>exact Src.ofNil s.w ht.und c
  | some a=>exact Src.ofSlice s.w ht.und a 0 c [] (by simp) (by simp) (by simp)
 obtain ⟨B,n0,c0,e3,hle⟩:∃B n0 c0,ρ id = .slice B n0 c0/\n0<=c0:=by
  rcases g2 with ⟨g3,_⟩ | ⟨g,cap,cur,g3,_,_,g4,_⟩
  .exact ⟨_,_,_,g3,Nat.le_refl _⟩
  .exact ⟨_,_,_,g3,g4⟩
 have hr:=run_append_nothing s.w t t ty T i ht.und hi B n0 c0 hle _ hs
 have e2:ev y = .slice A ([]:List (List D)).length c:=e2
 refine Bk (v:=ρ id) ?_ ⟨GS.Le.refl s,hid,rfl⟩
 simp only [execOp,resolve,invoke,builtin,Sem.run_bind,Sem.run_pure,Result.andThen_ok,List.map_toArray,List.map_cons,List.map_nil,e1,e2,e3]
 rw [hr]
 rfl
end
section
variable {P:Program} {s0:An} {n:Nat} {ops:Array Oper} {Q:Exit->AS->Prop} {rest:List Oper} {fr:List (Nat×AV)} {hp hp':List Ow} {ty:TypeId} {ps:String} {af:Array Edge}
theorem Sk{c:Operand}{x y:Code}(hc:AS.arg ⟨fr,hp⟩ c = .d A2N)(h1:AWp P s0 n x Q ⟨fr,hp⟩)(h2:AWp P s0 n y Q ⟨fr,hp⟩):AWp P s0 n (.cond c x y) Q ⟨fr,hp⟩:=⟨λa w hs=>by
 obtain ⟨s,ρ,hw,hst⟩:=hs
 have h:=hst.arg c
 rw [hc] at h
 obtain ⟨b,hb⟩:=h
 cases b with
 | true=>exact wp_cond_true hb (h1.run a w ⟨s,ρ,hw,hst⟩)
 | false=>exact wp_cond_false hb (h2.run a w ⟨s,ρ,hw,hst⟩)⟩
theorem A2s{T sz:Nat}{rows:List (List D)}{frf:Nat->Nat->List (Nat×AV)}{hpf:Nat->List Ow}(id:Nat)(hh:hp[id]? = some (.obj (Qb T sz rows)))(h0:0<rows.length)(hf:∀g c,EV id (sX g rows.length c) fr=some (frf g c))(hpl:PlainHp id hp)(hs:∀g,Do hp id (.obj (By [⟨g,T,rows.flatten⟩]))=some (hpf g))
  (h:∀g k,rows.length<=k->k<=9223372036854775807->AWl P s0 n ops Q rest ⟨frf g k,hpf g⟩):AWl P s0 n ops Q rest ⟨fr,hp⟩:=by
 refine ⟨λa w ⟨s,ρ,hw,hst⟩=>?_⟩
 obtain ⟨xs,h2,h3,h4,h5,h6⟩:=hst.hp id _ hh
 obtain ⟨g,cap,cur,e1,hbg,hg,hnc,hcm,hcs,htake⟩:=h2.2.resolve_left (λ⟨_,hn⟩=>by omega)
 have hflat:∀(l:List (List D)),(∀k,k<l.length->(l.getD k []).length=sz)->l.flatten.length=l.length*sz/\∀k j,k<l.length->j<sz->BG l.flatten (k*sz+j)=BG (l.getD k []) j:=by
  intro l
  induction l with
  | nil=>intro _;exact ⟨by simp,λk j hk=>by simp at hk⟩
  | cons r l ih=>
   intro hl
   have hr0:r.length=sz:=hl 0 (by simp)
   obtain ⟨i1,i2⟩:=ih λk hk=>hl (k+1) (by simpa using hk)
   refine ⟨by simp only [List.flatten_cons,List.length_append,List.length_cons];rw [i1,hr0,Nat.succ_mul];omega,λk j hk hj=>?_⟩
   cases k with
   | zero=>simp [BG,List.getElem?_append,hr0,hj]
   | succ k=>
    have:=i2 k j (by simpa using hk) hj
    rw [Nat.succ_mul]
    simp only [List.flatten_cons,BG,List.getD_cons_succ] at this ⊢
    rw [<-this,List.getD_eq_getElem?_getD,List.getD_eq_getElem?_getD,List.getElem?_append_right (by omega),hr0]
    congr 2
    omega
 obtain ⟨f1,f2⟩:=hflat rows λk hk=>(h6 k hk).1
 have hnp:∀a,ρ id ≠ .pointer a:=λa e=>by rw [e1] at e;cases e
 have hst':=hst.upd (s':=s) (o':=.obj (By [⟨g,T,rows.flatten⟩])) (ρ':=λi=>if i=id then ρ id else ρ i) (f:=down id (sX g rows.length cap)) hst.le hst.ok (GS.Chg.refl s) hh (λ_ _ _=>⟨rfl,λ_=>Iff.rfl⟩) (λj hj=>if_neg hj)
  (by
   refine ⟨λw hw=>?_,by simp⟩
   rw [List.mem_singleton.1 hw]
   refine ⟨h3,λk=>h5 g (by rw [e1];rfl) k,cur,hg,by show rows.flatten.length<=_;rw [f1,hcs];exact Nat.mul_le_mul_right _ hnc,λk hk=>?_⟩
   have hk:k<rows.length*sz:=by rw [<-f1];exact hk
   have hd1:=Nat.div_add_mod k sz
   have hkl:k/sz<rows.length:=Nat.div_lt_of_lt_mul (by rw [Nat.mul_comm];exact hk)
   have hkm:k%sz<sz:=Nat.mod_lt _ h4
   obtain ⟨u,r1,r2',r3⟩:=(h6 (k/sz) hkl).2 (k%sz) hkm
   have e3:k/sz*sz+k%sz=k:=by rw [Nat.mul_comm];exact hd1
   rw [e3] at r1
   refine ⟨u,?_,r2',?_⟩
   .rw [<-htake,List.getElem?_take,if_pos hk] at r1
    simpa using r1
   .have:=f2 (k/sz) (k%sz) hkl hkm
    rw [e3] at this
    show (BG rows.flatten k).rel s u
    rw [this]
    exact r3)
  (λb hb=>by
   obtain ⟨w,hw,rfl⟩:=hb
   rw [List.mem_singleton.1 hw]
   exact .inl (by show DL (ρ id)=_;rw [e1];rfl)) (Jo (x:=sX g rows.length cap) e1 (GS.Chg.refl s) hnp)
 have hk:=h g cap hnc hcm
 rw [Gk (hf g cap),Cs (hs g)] at hk
 rw [CK hpl.ok] at hst'
 exact hk.run a w ⟨s,_,hw,hst'⟩
theorem VY{T sz:Nat}{rows:List (List D)}{frf:Nat->Nat->List (Nat×AV)}{hpf:Nat->Nat->List Ow}(id:Nat)(hh:hp[id]? = some (.obj (Qb T sz rows)))(h0:0<rows.length)(hf:∀g c,EV id (sX g rows.length c) fr=some (frf g c))(hpl:PlainHp id hp)(hs:∀g k,Do hp id (.obj (BN [⟨g,T,rows.flatten⟩] [k*sz]))=some (hpf g k))
  (h:∀g k,rows.length<=k->k<=9223372036854775807->AWl P s0 n ops Q rest ⟨frf g k,hpf g k⟩):AWl P s0 n ops Q rest ⟨fr,hp⟩:=by
 refine ⟨λa w ⟨s,ρ,hw,hst⟩=>?_⟩
 obtain ⟨xs,h2,h3,h4,h5,h6⟩:=hst.hp id _ hh
 obtain ⟨g,cap,cur,e1,hbg,hg,hnc,hcm,hcs,htake⟩:=h2.2.resolve_left (λ⟨_,hn⟩=>by omega)
 have hflat:∀(l:List (List D)),(∀k,k<l.length->(l.getD k []).length=sz)->l.flatten.length=l.length*sz/\∀k j,k<l.length->j<sz->BG l.flatten (k*sz+j)=BG (l.getD k []) j:=by
  intro l
  induction l with
  | nil=>intro _;exact ⟨by simp,λk j hk=>by simp at hk⟩
  | cons r l ih=>
   intro hl
   have hr0:r.length=sz:=hl 0 (by simp)
   obtain ⟨i1,i2⟩:=ih λk hk=>hl (k+1) (by simpa using hk)
   refine ⟨by simp only [List.flatten_cons,List.length_append,List.length_cons];rw [i1,hr0,Nat.succ_mul];omega,λk j hk hj=>?_⟩
   cases k with
   | zero=>simp [BG,List.getElem?_append,hr0,hj]
   | succ k=>
    have:=i2 k j (by simpa using hk) hj
    rw [Nat.succ_mul]
    simp only [List.flatten_cons,BG,List.getD_cons_succ] at this ⊢
    rw [<-this,List.getD_eq_getElem?_getD,List.getD_eq_getElem?_getD,List.getElem?_append_right (by omega),hr0]
    congr 2
    omega
 obtain ⟨f1,f2⟩:=hflat rows λk hk=>(h6 k hk).1
 have hnp:∀a,ρ id ≠ .pointer a:=λa e=>by rw [e1] at e;cases e
 have hst':=hst.upd (s':=s) (o':=.obj (BN [⟨g,T,rows.flatten⟩] [cap*sz])) (ρ':=λi=>if i=id then ρ id else ρ i) (f:=down id (sX g rows.length cap)) hst.le hst.ok (GS.Chg.refl s) hh (λ_ _ _=>⟨rfl,λ_=>Iff.rfl⟩) (λj hj=>if_neg hj)
  (by
   refine ⟨⟨λw hw=>?_,by simp⟩,λi e z hi hz=>?_⟩
   rotate_left
   .match i,hi,hz with
    | 0,hi,hz=>
     cases hi
     cases hz
     exact ⟨cur,T,_,hg,hcs⟩
   rw [List.mem_singleton.1 hw]
   refine ⟨h3,λk=>h5 g (by rw [e1];rfl) k,cur,hg,by show rows.flatten.length<=_;rw [f1,hcs];exact Nat.mul_le_mul_right _ hnc,λk hk=>?_⟩
   have hk:k<rows.length*sz:=by rw [<-f1];exact hk
   have hd1:=Nat.div_add_mod k sz
   have hkl:k/sz<rows.length:=Nat.div_lt_of_lt_mul (by rw [Nat.mul_comm];exact hk)
   have hkm:k%sz<sz:=Nat.mod_lt _ h4
   obtain ⟨u,r1,r2',r3⟩:=(h6 (k/sz) hkl).2 (k%sz) hkm
   have e3:k/sz*sz+k%sz=k:=by rw [Nat.mul_comm];exact hd1
   rw [e3] at r1
   refine ⟨u,?_,r2',?_⟩
   .rw [<-htake,List.getElem?_take,if_pos hk] at r1
    simpa using r1
   .have:=f2 (k/sz) (k%sz) hkl hkm
    rw [e3] at this
    show (BG rows.flatten k).rel s u
    rw [this]
    exact r3)
  (λb hb=>by
   obtain ⟨w,hw,rfl⟩:=hb
   rw [List.mem_singleton.1 hw]
   exact .inl (by show DL (ρ id)=_;rw [e1];rfl)) (Jo (x:=sX g rows.length cap) e1 (GS.Chg.refl s) hnp)
 have hk:=h g cap hnc hcm
 rw [Gk (hf g cap),Cs (hs g cap)] at hk
 rw [CK hpl.ok] at hst'
 exact hk.run a w ⟨s,_,hw,hst'⟩
theorem Ya{x y:Operand}{t T T2 sz bytes m b e:Nat}{z z':Value}{d:TypeDesc}{r:List D}{hpf:Nat->Nat->List Ow}(id:Nat)(hx:AS.arg ⟨fr,hp⟩ x = .d (ex (.slice none 0 0)))(hh:hp[id]? = some (.obj (BN [] [])))(hT32:T≠136)(hsz:0<sz)(hr:r.length=sz)(hy:Ed hp (AS.arg ⟨fr,hp⟩ y)=some (slD T2 sz [r]))
  (ht:Tab P t (.slice T) m b z') (hT:Tab P T d sz bytes z) (hzs:z.cells.size=sz) (hd:Nat.blt e n=true) (hbytes:(0+1)*bytes<=140737488355328) (hs:∀g c,Do hp id (.obj (BN [⟨g,T,r⟩] [c*sz]))=some (hpf g c))
  (h:∀g c,1<=c->c<=9223372036854775807->AWl P s0 n ops Q rest ⟨(e,.d (sX g 1 c))::fr,hpf g c⟩):AWl P s0 n ops Q (⟨some e,.call { callee:=.builtin .append,args:=#[x,y],argTypes:=#[t,t] },ty,ps,af,none⟩::rest) ⟨fr,hp⟩:=by
 refine AWl.step rfl λs ρ a hst K hK=>?_
 have e1:a.eval x = .slice none 0 0:=by
  have hx':=hst.arg x
  rw [hx] at hx'
  exact hx'
 obtain ⟨A,c1,e2,h7,h8,h9⟩:=BW hst.hp (hst.arg y) hy
 obtain ⟨gy,p,rfl,h10⟩:=h9 (by simp)
 obtain ⟨news,n1,n2,n3,n4⟩:=KM h10
 obtain ⟨v',s',hr',q1,q2,q3,q4,q5,q6,q7⟩:=HI (P:=P) (ty:=ty) hst.le hst.ok ht.und hT hzs hT32 hsz (v:=.slice none 0 0) (n:=0) (xs:=[]) ⟨by simp,.inl ⟨rfl,rfl⟩⟩ (λb hb=>by cases hb) (λb hb k=>by cases hb) gy p 1 c1 news n1 Nat.one_pos n2 n3 hbytes (by decide)
 have hr':(Builtin.append_ #[t,t] ty #[.slice none 0 0,.slice (some ⟨gy,p,none⟩) 1 c1]).run P s.w = .ok v' s'.w:=hr'
 have e2:a.eval y = .slice (some ⟨gy,p,none⟩) 1 c1:=e2
 have hrun:(execOp a.eval ⟨some e,.call { callee:=.builtin .append,args:=#[x,y],argTypes:=#[t,t] },ty,ps,af,none⟩).run P s.w = .ok (.value v') s'.w:=by
  simp only [execOp,resolve,invoke,builtin,Sem.run_bind,Sem.run_pure,Result.andThen_ok,List.map_toArray,List.map_cons,List.map_nil,e1,e2,hr']
 unfold Oper.wp
 rw [hrun]
 obtain ⟨g,cap,cur,rfl,hbg,hg,hnc,hcm',hcs,htake⟩:=q4.2.resolve_left (λ⟨_,hn⟩=>by omega)
 have hgo:s.w.heap.size<=g:=(q7 g rfl).resolve_left λh=>by cases h
 have hSg:∀k,¬s.S g k:=λk hk=>by
  have:=hst.ok.lt _ _ hk
  omega
 let s2:GS:=⟨λb k=>s'.S b k/\b≠g,s'.tag,s'.w⟩
 have hc2:GS.Chg s s2:=⟨q3.size,λb k hk=>⟨q3.up b k hk,λe=>hSg k (e▸hk)⟩,λb cs T fz hb=>by
  obtain ⟨cs',fz',r1,r2⟩:=q3.cell b cs T fz hb
  exact ⟨cs',fz',r1,λk hk=>r2 k hk⟩⟩
 have hok2:s2.Ok:=⟨λb k hk=>q2.lt b k hk.1,λb k hty=>⟨q2.safe b k hty,λe=>by
  subst e
  obtain ⟨cs,fz,hb⟩:=hty
  have hb:s'.w.heap[b]? = _:=hb
  rw [hg] at hb
  exact hT32 (Obj.cells.inj (Option.some.inj hb)).2.1⟩⟩
 have hle2:GS.LeX s0.mine s0.g s2:=⟨q1.os,q1.tape,q1.output,q1.block,hst.le.chg.trans hc2,λb k hb hm hk=>q1.old b k hb hm hk.1,q1.tag,λ_=>hok2⟩
 have hfar:∀b,b<s.w.heap.size->s'.w.heap[b]? = s.w.heap[b]? /\ ∀k,s2.S b k↔s.S b k:=λb hb=>by
  obtain ⟨w1,w2⟩:=q6 b hb λe=>by cases e
  exact ⟨w1,λk=>⟨λhk=>(w2 k).1 hk.1,λhk=>⟨(w2 k).2 hk,λe=>hSg k (e▸hk)⟩⟩⟩
 have hst':=hst.upd (s':=s2) (ρ':=ρ) (f:=λx=>x) (o':=.obj (BN [⟨g,T,r⟩] [cap*sz])) hle2 hok2 hc2 hh
  (λb hb _=>hfar b hb) (λ_ _=>rfl)
  (by
   refine ⟨⟨λw hw=>?_,by simp⟩,λj w zz hj hzz=>?_⟩
   .rw [List.mem_singleton.1 hw]
    refine ⟨hT32,λk hk=>hk.2 rfl,cur,hg,?_,λk hk=>?_⟩
    .show r.length<=cur.size
     rw [hr,hcs]
     have:=Nat.mul_le_mul_right sz hnc
     omega
    .have hk:k<sz:=by rw [<-hr]; exact hk
     have hcur:cur[k]? = news[k]?:=by
      have:(cur.toList.take ((0+1)*sz))[k]? = news[k]?:=by rw [htake];rfl
      rw [<-this,List.getElem?_take,if_pos (by omega)]
      simp
     obtain ⟨u,w1,w2,w3⟩:=n4 0 k Nat.one_pos hk
     rw [Nat.zero_mul,Nat.zero_add] at w1
     exact ⟨u,by rw [hcur];exact w1,w2,(BG _ _).st w3 hc2⟩
   .match j,hj,hzz with
    | 0,hj,hzz=>
     cases hj
     cases hzz
     exact ⟨cur,T,_,hg,hcs⟩)
  (λb hb=>by
   obtain ⟨w,hw,rfl⟩:=hb
   rw [List.mem_singleton.1 hw]
   exact .inr hgo) λav v h=>h.chg hc2
 rw [En,De] at hst'
 have hfin:=hst'.put (GS.Le.refl s2) (dst:=some e) (λd hd'=>by cases hd';simpa [Nat.blt_eq] using hd) (v:=.slice (some ⟨g,0,none⟩) (0+1) cap) (r:=.d (sX g 1 cap)) rfl
 have hk:=h g cap hnc (by simpa [maxLen] using hcm')
 rw [Cs (hs g cap)] at hk
 exact hK _ _ _ hk ⟨s2,_,rfl,hfin⟩
theorem IF{L:List HE}{Z:List Nat}(id:Nat)(hh:hp[id]? = some (.obj (BN L Z)))(hs:Do hp id (.obj (By L))=some hp'):AS.le ⟨fr,hp⟩ ⟨fr,hp'⟩:=by
 rw [Cs hs]
 intro s0 n a w ⟨s,ρ,hw,hst⟩
 exact ⟨s,ρ,hw,hst.swap hh (Ex (hst.hp _ _ hh)).1 λ_ h=>h⟩
end
theorem Tk(l:Ai)(h0:0<l.length)(hn:l.length<=1000000):Con Tryz.prog 135 [.d (AZ l)] [] [] (λr hp'=>∃g c,l.length<=c/\c<=9223372036854775807/\r = .d (sX g l.length c)/\hp'=[.dead,.obj (By [⟨g,55,EE l⟩])]):=by
 have hml:(l.map AK).length=l.length:=List.length_map ..
 have h8:∀k,k<(l.map AK).length->((l.map AK).getD k []).length=8:=λk hk=>by
  rw [List.getD_eq_getElem?_getD,List.getElem?_eq_getElem hk,Option.getD_some,List.getElem_map]
  rfl
 refine GD Tryz.func135 rfl (Az Tryz.func135 (by kernel_rfl) (by kernel_rfl)) rfl λs0=>?_
 rw [Tryz.ntmps135]
 refine Y1<|Wa<|Y0<|Aa<|Y1<|Wm ?_
 refine CD rfl rfl ?_
 refine ⟨_,NX (rows:=l.map AK) rfl (ao rfl) (Ac rfl) (by omega),?_⟩
 apply AWl.nil
 apply Yn
 refine Cf ?_
 apply AWp.skip
 apply Yn
 apply Aa
 apply AWp.region
 refine CW (Ac rfl) (Ac rfl) rfl rfl rfl rfl rfl ?_
 refine Dc (Uk 1 rfl rfl) ?_
 refine CD rfl rfl ?_
 refine ⟨_,JA (ao rfl),?_⟩
 refine PM (r2:=l.map AK) (ao rfl) rfl h8 (by omega) rfl (Ac rfl) (Ac rfl) rfl rfl (by rw [hml];simp;omega) (by rw [hml];simp;omega) rfl (by first | ((repeat (first | exact PlainHp.nil | refine PlainHp.var ?_ | refine Ck ?_ | refine PlainHp.dead ?_ | refine PlainHp.obj ?_ | refine PlainHp.pin rfl ?_ | refine BY rfl ?_));done) | fail) rfl ?_
 refine A2s 1 rfl (by rw [List.nil_append];omega) (λg c=>rfl) (by first | ((repeat (first | exact PlainHp.nil | refine PlainHp.var ?_ | refine Ck ?_ | refine PlainHp.dead ?_ | refine PlainHp.obj ?_ | refine PlainHp.pin rfl ?_ | refine BY rfl ?_));done) | fail) (λg=>rfl) λg c hc1 hc2=>?_
 refine Wa<|Y0<|Am ?_
 refine Bv (RetsA.one rfl) rfl ?_ rfl
 exact ⟨g,c,by rwa [List.nil_append,hml] at hc1,hc2,by rw [List.nil_append,hml],rfl⟩
theorem Jf(l:Ai){q:Nat}(hq:q<l.length*8):(EE l)[q]? = (AK (AH l (q/8)))[q%8]?:=by
 have h1:=JQ l (i:=q/8) (j:=q%8) (by omega) (by omega)
 rw [show q/8*8+q%8=q by omega] at h1
 have h2:q<(EE l).length:=by rw [DF];exact hq
 have h3:q%8<(AK (AH l (q/8))).length:=by rw [Cq];omega
 have h4:=Hv (a:=AH l (q/8)) (i:=q%8) (by omega)
 simp only [BG,List.getD_eq_getElem?_getD] at h1 h4
 rw [List.getElem?_eq_getElem h2] at h1 ⊢
 rw [List.getElem?_eq_getElem h3] at h4 ⊢
 rw [Option.getD_some] at h1 h4
 rw [h1,h4]
theorem HT{l:Ai}{i:Nat}(hi:i<l.length):PartAt (EE l) (i*8) 8 (AK (AH l i)):=by
 refine ⟨by rw [DF];omega,?_⟩
 apply List.ext_getElem?
 intro q
 rw [List.getElem?_take]
 by_cases hq:q<8
 .rw [if_pos hq,List.getElem?_drop,Jf l (by omega),show (i*8+q)/8=i by omega,show (i*8+q)%8=q by omega]
 .rw [if_neg hq,List.getElem?_eq_none (by rw [Cq];omega)]
theorem LH(l:Ai)(i:Nat)(a:Nat->Int)(k:Nat)(hi:i<l.length):AH (l.set i a) k=if k=i then a else AH l k:=by
 unfold AH
 rw [List.getD_eq_getElem?_getD,List.getD_eq_getElem?_getD,List.getElem?_set]
 by_cases e:i=k
 .subst e
  rw [if_pos rfl,if_pos hi,if_pos rfl]
  rfl
 .rw [if_neg e,if_neg λh=>e h.symm]
theorem Ru{l:Ai}{i:Nat}{a:Nat->Int}(hi:i<l.length):SetAt (EE l) (i*8) (AK a) (EE (l.set i a)):=by
 have hle:i*8+(AK a).length<=(EE l).length:=by rw [DF,Cq];omega
 refine ⟨hle,?_⟩
 apply List.ext_getElem?
 intro q
 by_cases hq:q<l.length*8
 .rw [Jf (l.set i a) (by rw [List.length_set]; exact hq), LH l i a _ hi]
  unfold Nf
  have ht:((EE l).take (i*8)).length=i*8:=by rw [List.length_take,DF];omega
  by_cases h1:q<i*8
  .rw [List.getElem?_append_left (by omega),List.getElem?_take,if_pos h1,Jf l hq,if_neg (by omega)]
  .rw [List.getElem?_append_right (by omega), ht]
   by_cases h2:q<i*8+8
   .rw [List.getElem?_append_left (by rw [Cq]; omega), if_pos (by omega)]
    congr 1
    omega
   .rw [List.getElem?_append_right (by rw [Cq]; omega), List.getElem?_drop, Cq, if_neg (by omega), <-Jf l hq]
    congr 1
    omega
 .rw [List.getElem?_eq_none (by rw [Cn hle,DF];omega),List.getElem?_eq_none (by rw [DF,List.length_set];omega)]
def PZ(l:Ai):Nat->Ai
 | 0=>l
 | k+1=>((PZ l k).set k (AH (PZ l k) (l.length-1-k))).set (l.length-1-k) (AH (PZ l k) k)
theorem Gq(l:Ai):∀k,(PZ l k).length=l.length
 | 0=>rfl
 | k+1=>by rw [PZ,List.length_set,List.length_set,Gq l k]
theorem YJ(l:Ai):∀k,k+k<=l.length->∀q,q<l.length->AH (PZ l k) q=if q<k\/l.length-k<=q then AH l (l.length-1-q) else AH l q
 | 0,_,q,hq=>by rw [if_neg (by omega)];rfl
 | k+1,hk,q,hq=>by
  have ih:=YJ l k (by omega)
  have hl:=Gq l k
  rw [PZ,LH _ _ _ _ (by rw [List.length_set,hl];omega),LH _ _ _ _ (by rw [hl];omega),ih k (by omega),ih (l.length-1-k) (by omega),ih q hq]
  by_cases h1:q=l.length-1-k
  .rw [if_pos h1, if_neg (by omega), if_pos (by omega)]
   congr 1
   omega
  .rw [if_neg h1]
   by_cases h2:q=k
   .rw [if_pos h2, if_neg (by omega), if_pos (by omega)]
    congr 1
    omega
   .rw [if_neg h2]
    by_cases h3:q<k\/l.length-k<=q
    .rw [if_pos h3,if_pos (by omega)]
    .rw [if_neg h3,if_neg (by omega)]
theorem A1f(l:Ai):PZ l (l.length/2)=l.reverse:=by
 apply List.ext_getElem
 .rw [Gq,List.length_reverse]
 .intro q h1 h2
  rw [Gq] at h1
  have h:=YJ l (l.length/2) (by omega) q h1
  have e1:AH (PZ l (l.length/2)) q=(PZ l (l.length/2))[q]'(by rw [Gq];exact h1):=by rw [AH,List.getD_eq_getElem?_getD,List.getElem?_eq_getElem (by rw [Gq];exact h1)];rfl
  have e2:∀i,(hi:i<l.length)->AH l i=l[i]:=λi hi=>by rw [AH,List.getD_eq_getElem?_getD,List.getElem?_eq_getElem hi];rfl
  rw [<-e1,h,List.getElem_reverse]
  by_cases hc:q<l.length/2\/l.length-l.length/2<=q
  .rw [if_pos hc,e2 _ (by omega)]
  .rw [if_neg hc,e2 _ h1]
   congr 1
   omega
theorem Qc(l:Ai)(g c:Nat)(Z:List Nat)(h0:0<l.length)(hn:l.length<=1000000):Con Tryz.prog 137 [.d (sX g l.length c)] [.obj (BN [⟨g,55,EE l⟩] Z)] [] (λr hp'=>r = .d Cp/\hp'=[.obj (BN [⟨g,55,EE l.reverse⟩] Z),.dead]):=by
 refine BK Tryz.func137 rfl (Az Tryz.func137 (by kernel_rfl) (by kernel_rfl)) rfl λs0 pv0=>?_
 rw [Tryz.ntmps137]
 refine Y1<|Wm ?_;refine Wq (Dq (ao rfl) (Ac rfl)) ?_;refine Wq CM ?_;refine Wa<|Wa<|Y0<|AWp.block ?_
 refine AC (λmz σ=>∃k,k<=l.length/2/\mz=l.length/2-k/\σ=⟨[(0,.d (sX g l.length c)),(2,.d (ex (.int .i64 (k:Nat)))),(3,.d (ex (.int .i64 ((l.length-1-k:Nat):Int))))],[.obj (BN [⟨g,55,EE (PZ l k)⟩] Z),.pin [(pv0,.own 0)]]⟩) ?le ⟨0,by omega,rfl,rfl⟩ ?round
 case le=>exact Ah (by exact Yd<|Yd<|Yd<|FrLe.nil) (by exact HpLe.cons (OwLe.obj rfl)<|HpLe.cons (Bi rfl)<|HpLe.nil)
 case round=>
  rintro mz _ ⟨k,hk,rfl,rfl⟩
  by_cases hlt:k<l.length/2
  .have hj:l.length-1-k<l.length:=by omega
   have hkl:k<l.length:=by omega
   have hrl:=Gq l k
   refine Aa<|Y1<|Wm<|Wm ?_;refine Wq Ak ?_;refine Y0<|Ct<|Ys<|Aa<|AWp.block ?_
   refine Lf (MR (e:=2) (e2:=3) (by kernel_rfl) (K4 (K4 (K4 (AddE.add (AddE.keep (AddE.keep (AddE.keep AddE.nil))))))) (by kernel_rfl) (K4 (K4 (K4 (AddE.add (AddE.keep (AddE.keep (AddE.keep AddE.nil))))))) (by kernel_rfl)) [[],[],[],[],[],[],[(18,4),(19,5)],[(20,6)],[],[],[(22,8),(23,9)],[(24,10)]] [[],[],[],[],[],[],[4,5],[4,5,6],[],[],[8,9],[8,9,10]] rfl (by kernel_rfl) (by kernel_rfl) (by kernel_rfl) ?_
   refine Xq Af ?_;refine Xq Af ?_;refine Xq Af ?_;refine Xq Af ?_;refine Xq Af ?_;refine Xq Af ?_;refine Xq (CN (k:=l.length-1-k) (ah rfl) (ah rfl) (Ac rfl) (Ac rfl) hj) ?_;refine Xq (A0y (e:=⟨g,55,EE (PZ l k)⟩) 0 0 (ah rfl) rfl rfl (Ac rfl) rfl (HT (i:=l.length-1-k) (by omega))) ?_;refine Xq Af ?_;refine Xq Af ?_;refine Xq (CN (k:=k) (ah rfl) (ah rfl) (Ac rfl) (Ac rfl) hkl) ?_;refine Xq (A0y (e:=⟨g,55,EE (PZ l k)⟩) 0 0 (ah rfl) rfl rfl (Ac rfl) rfl (HT (i:=k) (by omega))) ?_;refine ⟨_,rfl,?_⟩
   refine Wq (CN (k:=k) (ao rfl) (ao rfl) (Ac rfl) (Ac rfl) hkl) ?_;refine VU (e:=⟨g,55,EE (PZ l k)⟩) 0 0 (ao rfl) (ao rfl) rfl rfl (Ac rfl) rfl (Ru (i:=k) (by omega)) rfl ?_;refine Wq (CN (k:=l.length-1-k) (ao rfl) (ao rfl) (Ac rfl) (Ac rfl) hj) ?_;(refine VU (e:=⟨g,55,EE ((PZ l k).set k (AH (PZ l k) (l.length-1-k)))⟩) 0 0 (ao rfl) (ao rfl) rfl rfl (Ac rfl) rfl (Ru (i:=l.length-1-k) (by rw [List.length_set];omega)) rfl ?_);apply AWl.nil;apply OnlyN.mk';refine Ag<|Yn<|AWp.region<|Wm ?_;refine Wq AD ?_;refine Wm ?_;refine Wq CM ?_;refine Wa<|Wa<|AWl.nil ?_
   refine ALoop.next (l.length/2-(k+1)) (by omega) ⟨k+1,by omega,rfl,rfl⟩ ?_
   exact Ah (by exact Yd<|Yd<|Yd<|FrLe.nil) (by (refine HpLe.cons (OwLe.obj (by rw [PZ];rfl)) ?_);exact HpLe.cons (Bi rfl)<|HpLe.nil)
  .obtain rfl:k=l.length/2:=by omega
   refine Aa<|Y1<|Wm<|Wm ?_;refine Wq Aj ?_;refine Y0<|Cf<|AA<|Aq<|Ar<|ABlock.hit ?_
   refine Hs EL rfl ?_ rfl
   exact ⟨rfl,by rw [A1f]⟩
abbrev moX:List TypeId:=[55]
theorem SS{s:GS}{g c:Nat}{R:Ai}(h:Hset s ⟨g,55,EE R⟩)(hc:R.length<=c)(hc':c<=9223372036854775807){v:Value}(hv:(sX g R.length c).rel s v):(AZ R).rel s v:=by
 obtain rfl:v = .slice (some ⟨g,0,none⟩) R.length c:=hv
 have hr:∀k,k<R.length->(R.map AK).getD k []=AK (AH R k):=λk hk=>by
  rw [AH,List.getD_eq_getElem?_getD,List.getD_eq_getElem?_getD,List.getElem?_map,List.getElem?_eq_getElem hk]
  rfl
 refine h.sl rfl (List.length_map ..) hc hc' (λk hk=>?_) λk j hk hj=>?_
 .rw [hr k (by simpa using hk)]
  rfl
 .have hk:k<R.length:=by simpa using hk
  refine ⟨by show _<(EE R).length;rw [DF];omega,?_⟩
  show BG (EE R) (k*8+j)=_
  rw [JQ R hk hj,hr k hk,Hv hj]
theorem WG(m:Nat->Int)(R:Ai)(g c:Nat)(Z:List Nat)(hc:R.length<=c)(hc':c<=9223372036854775807)(hn:R.length<=1000000):Con Tryz.prog 136 [.d (Bb (AK m)),.ptr 0 0] [.var 28 ([sX g R.length c].map .d),.obj (BN [⟨g,55,EE R⟩] Z)] [] (λr hp'=>r = .d (ex (.bool (inB R m)))/\∃c1:List D,hp'=[.var 28 ([sX g R.length c].map .d),.obj (BN [⟨g,55,EE R⟩] Z),.dead,.var 55 (c1.map .d)]):=by
 refine IE Tryz.func136 rfl (Az Tryz.func136 (by kernel_rfl) (by kernel_rfl)) rfl λs0 pv0 pv1=>?_
 rw [Tryz.ntmps136]
 apply Y1;refine Bx ?_;refine Wa<|Y0<|Y1 ?_;refine Wq At ?_;refine Wq AQ ?_;refine Wq (A0D moX 1 (ao rfl) (KS m R hn) rfl (ArgsZ.le rfl (D.le.refl _) (ArgsZ.set rfl (λs hs v hv=>SS (hs _ List.mem_cons_self) hc hc' hv) ArgsZ.nil)) (λe he=>by rw [List.mem_singleton.1 he];exact List.mem_cons_self) TZ) ?_;refine Wa<|Y0<|Am ?_
 refine Bv (RetsA.one rfl) rfl ?_ rfl
 exact ⟨rfl,_,rfl⟩
theorem ST(m:Nat->Int):Con Tryz.prog 136 [.d (Bb (AK m)),.ptr 0 0] [.var 28 ([ex (.slice none 0 0)].map .d)] [] (λr hp'=>r = .d (ex (.bool false))/\∃c1:List D,hp'=[.var 28 ([ex (.slice none 0 0)].map .d),.dead,.var 55 (c1.map .d)]):=by
 refine BK Tryz.func136 rfl (Az Tryz.func136 (by kernel_rfl) (by kernel_rfl)) rfl λs0 pv0=>?_
 rw [Tryz.ntmps136]
 apply Y1;refine Bx ?_;refine Wa<|Y0<|Y1 ?_;refine Wq At ?_;refine Wq AQ ?_;refine Wq (Ad (KS m [] (by decide))) ?_;refine Wa<|Y0<|Am ?_
 refine Bv (RetsA.one rfl) rfl ?_ rfl
 exact ⟨rfl,_,rfl⟩
theorem Fu{x y z:AS}(h:AS.le x y)(h':AS.le y z):AS.le x z:=λs0 n a w hs=>h' s0 n a w (h s0 n a w hs)
theorem Ul{fr:List (Nat×AV)}{hp hp' hp1:List Ow}(hs1:Dt hp (.obj (By []))=some hp1)(hs:Dt hp (.obj (BN [] []))=some hp'):AS.le ⟨fr,hp⟩ ⟨fr,hp'⟩:=by
 refine Fu (Ye hs1) ?_
 rw [CI hs,CI hs1]
 intro s0 n a w ⟨s,ρ,hw,hst⟩
 have hat:(hp++[Ow.obj (By [])])[hp.length]? = some (.obj (By [])):=by simp
 have := hst.swap (o' := .obj (BN [] [])) hat ⟨hst.hp _ _ hat, fun i e z hi => by cases hi⟩ fun b hb => by
  obtain ⟨e,he,_⟩:=hb
  cases he
 rw [show (hp++[Ow.obj (By [])]).set hp.length (.obj (BN [] []))=hp++[.obj (BN [] [])] by simp] at this
 exact ⟨s,ρ,hw,this⟩
theorem Bd{e:Nat->Nat}{T:TypeId}{ds:List D}:(Ow.var T (ds.map .d)).ren e=Ow.var T (ds.map .d):=(IB (e:=e) (T:=T) (ds:=ds)).symm
theorem Bt{e:Nat->Nat}{O:OD}:(Ow.obj O).ren e=Ow.obj O:=rfl
theorem Is:∀(l R:Ai) (m:Nat->Int),EH R (l++[m])=if inB (EH R l) m=true then EH R l else EH R l++[m]
 | [],R,m=>rfl
 | a::l,R,m=>by
  rw [List.cons_append,EH,EH]
  split
  .exact Is l R m
  .exact Is l (R++[a]) m
def OX(s:Ai)(k:Nat):Ai:=EH [] (s.take k)
theorem Jk{s:Ai}{k:Nat}(h:k<s.length):OX s (k+1)=if inB (OX s k) (AH s k)=true then OX s k else OX s k++[AH s k]:=by
 have e:s.take (k+1)=s.take k++[AH s k]:=by
  rw [List.take_add_one,List.getElem?_eq_getElem h,AH,List.getD_eq_getElem?_getD,List.getElem?_eq_getElem h]
  rfl
 rw [OX,e,Is]
 rfl
theorem KT(s:Ai):∀k,k<=s.length->(OX s k).length<=k
 | 0,_=>Nat.le_refl 0
 | k+1,h=>by
  have ih:=KT s k (by omega)
  rw [Jk h]
  split
  .omega
  .rw [List.length_append]
   exact Nat.succ_le_succ ih
theorem Vl{s:Ai}(h:0<s.length):OX s 1=[AH s 0]:=by
 rw [Jk h]
 rfl
theorem Vk{s:Ai}:∀k,0<k->k<=s.length->0<(OX s k).length
 | 0,h,_=>absurd h (Nat.lt_irrefl 0)
 | 1,_,h=>by rw [Vl h];exact Nat.one_pos
 | k+2,_,h=>by
  have ih:=Vk (s:=s) (k+1) (by omega) (by omega)
  rw [Jk h]
  split
  .exact ih
  .rw [List.length_append]
   omega
noncomputable def HW (l:Ai):Ai:=by
 classical
 exact if h:∃R,IsMin l R then h.choose else []
theorem KO{l R:Ai}(h:IsMin l R):IsMin l (HW l):=by
 have h':∃R,IsMin l R:=⟨R,h⟩
 unfold HW
 rw [dif_pos h']
 exact h'.choose_spec
theorem A1w(a:Nat->Int):EE [a]=AK a:=by simp [EE]
theorem Zq(l:Ai)(a:Nat->Int):EE (l++[a])=EE l++AK a:=by simp [EE]
theorem RY(l:Ai)(h0:0<l.length)(hn:l.length<=1000)(hnn:∀a∈l,∀j,j<8->0<=a j):Abs Tryz.prog 95 [AZ l] (AZ (HW l)):=by
 refine Ab Tryz.func95 λs0=>?_
 rw [Tryz.ntmps95]
 refine Y1<|Wa<|Y0<|Y1<|Wm ?_
 refine Kk [] [] (Tk l h0 (by omega)) ?_
 rintro _ _ ⟨g,cg,hc1,hc2,rfl,rfl⟩
 refine Kr ?_
 refine Wa<|Y0<|Y1<|Wm ?_
 refine Kk [1] [] (Ng l g cg (by omega)) ?_
 rintro _ _ ⟨s,hperm,hsort,rfl,rfl⟩
 refine Kr ?_
 have hsl:s.length=l.length:=hperm.length_eq
 refine Y0<|Y1 ?_;refine Al ?_;refine Y0<|Y1 ?_;refine Wq (FW [2] rfl) ?_;refine Wa<|Y0<|Aa<|Y1<|Wm ?_;refine Wq (Dq (ao rfl) (Ac rfl)) ?_;refine Wm<|Y0<|AWp.block ?_
 refine AC (λmz σ=>∃k,k<=l.length/\mz=l.length-k/\((k=0/\σ=⟨[(4,.ptr 2 0),(5,.fn 136 [2]),(13,.d (sX g l.length cg)),(14,.d (ex (.int .i64 (l.length:Nat)))),(15,.d (ex (.int .i64 (k:Nat))))],[.dead,.obj (By [⟨g,55,EE s⟩]),.var 28 ([ex (.slice none 0 0)].map .d),.obj (BN [] [])]⟩)\/(0<k/\∃g2 c2,(OX s k).length<=c2/\c2<=9223372036854775807/\σ=⟨[(4,.ptr 2 0),(5,.fn 136 [2]),(13,.d (sX g l.length cg)),(14,.d (ex (.int .i64 (l.length:Nat)))),(15,.d (ex (.int .i64 (k:Nat))))],[.dead,.obj (By [⟨g,55,EE s⟩]),.var 28 ([sX g2 (OX s k).length c2].map .d),.obj (BN [⟨g2,55,EE (OX s k)⟩] [c2*8])]⟩))) ?le ⟨0,by omega,rfl,.inl ⟨rfl,rfl⟩⟩ ?round
 case le=>
  refine Fu (Ul rfl rfl) ?_
  exact Ah (by exact Yp<|FrLe.cons rfl (AVle.fn rfl)<|Yd<|Yd<|Yd<|FrLe.nil) (by exact HpLe.cons (OwLe.dead)<|HpLe.cons (OwLe.obj rfl)<|Yv<|HpLe.cons (OwLe.obj rfl)<|HpLe.nil)
 case round=>
  rintro mz σ ⟨k,hk,rfl,h⟩
  by_cases hlt:k<l.length
  .rcases h with ⟨rfl,rfl⟩ | ⟨hk0,g2,c2,hc3,hc4,rfl⟩
   .refine Aa<|AWp.region ?_; refine Wq Ak ?_; refine AWl.nil<|Yn<|Aa<|Ct<|AWp.skip<|Yn<|Aa<|AWp.block<|Aa<|AWp.region ?_; refine Wq (CN (k:=0) (ao rfl) (ao rfl) (Ac rfl) (Ac rfl) hlt) ?_; refine Wq (Mx (e:=⟨g, 55, EE s⟩) 1 0 (ao rfl) rfl rfl (Ac rfl) rfl (HT (i:=0) (by omega))) ?_; refine Al ?_; refine Sf ?_; refine AWl.nil<|Yn<|Aa<|AWp.region<|Wm ?_; refine Wq At ?_
    refine Kk [2] [0] (ST (AH s 0)) ?_
    rintro _ _ ⟨rfl,c1,rfl⟩
    refine Kr ?_
    simp only [Bd,Bt]
    refine Wq BH ?_;refine Y0<|Ct<|AWp.region ?_;refine Wq AQ ?_;refine Wq At ?_;refine Wq (BF (ao rfl) (Ac rfl) (Ac rfl) rfl rfl rfl rfl rfl) ?_
    refine Ya (sz:=8) (r:=AK (AH s 0)) 3 (ao rfl) rfl (by decide) (by decide) rfl rfl (Ac rfl) (Ac rfl) rfl rfl (by decide) (λg c=>rfl) λg2 c2 hd1 hd2=>?_
    refine JF (ao rfl) (ao rfl) rfl (Ac rfl) (by first | exact CH rfl | exact One.sl | exact Ei) rfl rfl ?_;refine AWl.nil<|Ag<|Yn<|AWp.region ?_;refine Wq AD ?_;refine Wm<|AWl.nil ?_
    have hk1:=Vl (s:=s) (by omega)
    refine ALoop.next (l.length-1) (by omega) ⟨1,by omega,rfl,.inr ⟨Nat.one_pos,g2,c2,by rw [hk1];exact hd1,hd2,rfl⟩⟩ ?_
    exact Ah (by exact Yp<|FrLe.cons rfl (AVle.fn rfl)<|Yd<|Yd<|Yd<|FrLe.nil) (by refine HpLe.cons (OwLe.dead) ?_;refine HpLe.cons (OwLe.obj rfl) ?_;(refine HpLe.cons (CQ (by rw [hk1];rfl)) ?_);exact HpLe.cons (OwLe.obj (by rw [hk1,A1w]))<|HpLe.nil)
   .refine Aa<|AWp.region ?_; refine Wq Ak ?_; refine AWl.nil<|Yn<|Aa<|Ct<|AWp.skip<|Yn<|Aa<|AWp.block<|Aa<|AWp.region ?_; refine Wq (CN (k:=k) (ao rfl) (ao rfl) (Ac rfl) (Ac rfl) hlt) ?_; refine Wq (Mx (e:=⟨g, 55, EE s⟩) 1 0 (ao rfl) rfl rfl (Ac rfl) rfl (HT (i:=k) (by omega))) ?_; refine Al ?_; refine Sf ?_; refine AWl.nil<|Yn<|Aa<|AWp.region<|Wm ?_; refine Wq At ?_
    refine Kk [2,3] [0] (WG (AH s k) (OX s k) g2 c2 [c2*8] hc3 hc4 (by have:=KT s k (by omega);omega)) ?_
    rintro _ _ ⟨rfl,c1,rfl⟩
    refine Kr ?_
    simp only [Bd,Bt]
    have hst:=Jk (s:=s) (k:=k) (by omega)
    cases hin:inB (OX s k) (AH s k) with
    | true=>
     rw [hin,if_pos rfl] at hst
     refine Wq BH ?_;refine Y0<|Cf<|AWp.skip<|Ag<|Yn<|AWp.region ?_;refine Wq AD ?_;refine Wm<|AWl.nil ?_
     refine ALoop.next (l.length-(k+1)) (by omega) ⟨k+1,by omega,rfl,.inr ⟨by omega,g2,c2,by rw [hst];exact hc3,hc4,rfl⟩⟩ ?_
     exact Ah (by exact Yp<|FrLe.cons rfl (AVle.fn rfl)<|Yd<|Yd<|Yd<|FrLe.nil) (by exact HpLe.cons (OwLe.dead)<|HpLe.cons (OwLe.obj rfl)<|HpLe.cons (CQ (by rw [hst]))<|HpLe.cons (OwLe.obj (by rw [hst]))<|HpLe.nil)
    | false=>
     rw [hin,if_neg (by decide)] at hst
     have hkl:=KT s k (by omega)
     refine Wq BH ?_;refine Y0<|Ct<|AWp.region ?_;refine Wq AQ ?_;refine Wq At ?_;refine Wq (BF (ao rfl) (Ac rfl) (Ac rfl) rfl rfl rfl rfl rfl) ?_
     refine PL (sz:=8) (r:=AK (AH s k)) 3 0 (ao rfl) rfl rfl rfl (DF _) (by decide) hc3 hc4 rfl rfl (Ac rfl) (Ac rfl) rfl rfl (by omega) (by omega) (λg c=>rfl) λg3 c3 hd1 hd2=>?_
     refine JF (ao rfl) (ao rfl) rfl (Ac rfl) (by first | exact CH rfl | exact One.sl | exact Ei) rfl rfl ?_;refine AWl.nil<|Ag<|Yn<|AWp.region ?_;refine Wq AD ?_;refine Wm<|AWl.nil ?_
     refine ALoop.next (l.length-(k+1)) (by omega) ⟨k+1,by omega,rfl,.inr ⟨by omega,g3,c3,by rw [hst,List.length_append];exact hd1,hd2,rfl⟩⟩ ?_
     exact Ah (by exact Yp<|FrLe.cons rfl (AVle.fn rfl)<|Yd<|Yd<|Yd<|FrLe.nil) (by refine HpLe.cons (OwLe.dead) ?_;refine HpLe.cons (OwLe.obj rfl) ?_;(refine HpLe.cons (CQ (by rw [hst,List.length_append];rfl)) ?_);(refine HpLe.cons (OwLe.obj (by rw [hst,Zq];rfl)) ?_);exact HpLe.nil)
  .rcases h with ⟨rfl,rfl⟩ | ⟨hk0,g2,c2,hc3,hc4,rfl⟩
   .exact absurd h0 (by omega)
   .obtain rfl:k=l.length:=by omega
    have hkl:=KT s l.length (by omega)
    have hkp:=Vk (s:=s) l.length h0 (by omega)
    apply Y1;refine Wq Aj ?_;refine Y0<|Aa<|Cf<|AA<|Aq<|Ar<|ABlock.hit<|Yn<|Y1 ?_;refine Wq AQ ?_
    refine Kk [3] [] (Qc (OX s l.length) g2 c2 [c2*8] hkp (by omega)) ?_
    rintro _ _ ⟨rfl,rfl⟩
    refine Kr ?_
    simp only [Bt]
    have hmin:IsMin l (OX s l.length).reverse:=by
     have:=QJ (l:=l) (s:=s) (λx=>hperm.mem_iff) hnn hsort
     rwa [show EH [] s=OX s l.length by rw [OX,List.take_of_length_le (by omega)]] at this
    apply AWl.nil
    apply Yn
    apply Aa
    apply AWp.region
    refine CD rfl rfl ?_
    refine ⟨_,VO (ao rfl) rfl (Ac rfl) rfl rfl,?_⟩
    refine Dc (Fu (IF 3 rfl rfl) (EM (R:=AZ (OX s l.length).reverse) 3 30 rfl rfl rfl rfl λs' hs v hv=>SS (R:=(OX s l.length).reverse) (hs _ List.mem_cons_self) (by rw [List.length_reverse];exact hc3) hc4 (by rw [List.length_reverse];exact hv))) ?_
    refine Wa<|Y0<|Am ?_
    exact AN (Rets.of1 (ResV.tmp rfl rfl) (BJ (Zp (hmin.same (KO hmin)))))
end Go.Proofs.YtialdhnijjnpaaaGreat
