/- Part 19 of the proof of hilbertStandards_holds. No condition. -/
import Derived.Deep.Upon
import Derived.Lib.SliceRun
import Derived.Test.YtialdhnijjnpaaaGreatQf17
import Derived.Test.YtialdhnijjnpaaaGreatQf18
set_option linter.unusedSimpArgs false
set_option linter.unusedVariables false
set_option maxRecDepth 100000
set_option maxHeartbeats 4000000
namespace Go.Proofs.YtialdhnijjnpaaaGreat
open Go.RowKit
theorem Ln {P : Program} {s0:An} {n:Nat} {id:Nat} {e e2:Nat} {L L1 L':List Oper} {Q:Exit→AS→Prop} (hm:P.follows .mixedOrders = true) (hL:AddE e L L1) (hb:Kp e L L1 = true) (hL2:AddE e2 L1 L') (hb2:Kp e2 L1 L' = true):DrawOk P s0 n id L.toArray L' Q (OnlyN Q):=⟨fun a w h=>by
 have hfz:∀ j,(Array.replicate L.toArray.size false).getD j false = false:=fun j=>by
  rcases Nat.lt_or_ge j L.length with h | h
  ·simp [h]
  ·simp [h]
 have hs:L'.toArray.size = L.toArray.size:=by simp [hL.length,hL2.length]
 rw [hs] at h
 have hp:∀ c a w,¬ EY s0 n (OnlyN Q) (.panic c) a w:=fun c a w ⟨σ,h,_⟩=>by have:=h.how;cases this
 have hl:¬ LetsOut (EY s0 n (OnlyN Q)):=fun ⟨a,w,σ,h,_⟩=>by have:=h.how;cases this
 have h0:=Gm hL2 hb2 hp hl _ _ _ _ (by simp [hL.length]) (fun j o _ hl=>by rw [hfz] at hl;cases hl) h
 have h1:=Gm hL hb hp hl _ _ _ _ (by simp) (fun j o _ hl=>by rw [hfz] at hl;cases hl) h0
 exact wp_mono (wp_region_any hm h1) fun ex a' w' ⟨σ,h,hs⟩=>by
  obtain ⟨rfl,h⟩:=h
  exact ⟨σ,h,hs⟩⟩
def Yq : D:=⟨fun _ v=>∃ b,v = .bool b,fun h _=>h⟩
section
variable {P : Program} {hp:List Ow} {arg:Operand→AV} {dd:Option Tmp} {ty:TypeId} {ps:String} {af:Array Edge} {gd:Option (Nat × Bool)}
theorem Mg {x y:Operand} {U T sz t e n b:Nat} {z:Value} {rows:List (List D)} (hx:Eb hp (arg x) = some (slD T sz rows)) (hy:arg y = .d (ex (.slice none 0 0))) (ht:Tab P t (.slice e) n b z) (h0:0<rows.length):Quiet P hp ⟨dd,.binOp .eql t x y U,ty,ps,af,gd⟩ arg (.d (ex (.bool false))):=by
 refine ⟨fun base s ρ ev hok hbs hhp h=>?_⟩
 have h1:=h x (by simp [Op.operands])
 have h2:=h y (by simp [Op.operands])
 rw [hy] at h2
 have e2:ev y = .slice none 0 0:=h2
 obtain ⟨A,c,e1,_,_,h3⟩:=BM hhp h1 hx
 obtain ⟨g,o,rfl,_⟩:=h3 h0
 have hq:=Go.Lib.run_eql_slice_nil (P:=P) s.w t e (some ⟨g,o,none⟩) rows.length c 0 0 ht.und
 refine Bl (v:=.bool false) ?_ ⟨GS.Le.refl s,rfl⟩
 simp [execOp,e1,e2,eqGuard,hq]
theorem Tk {x y:Operand} {U T sz t e n b:Nat} {z:Value} (hx:Eb hp (arg x) = some (slD T sz [])) (hy:arg y = .d (ex (.slice none 0 0))) (ht:Tab P t (.slice e) n b z):Quiet P hp ⟨dd,.binOp .eql t x y U,ty,ps,af,gd⟩ arg (.d Yq):=by
 refine ⟨fun base s ρ ev hok hbs hhp h=>?_⟩
 have h1:=h x (by simp [Op.operands])
 have h2:=h y (by simp [Op.operands])
 rw [hy] at h2
 have e2:ev y = .slice none 0 0:=h2
 obtain ⟨A,c,e1,_,_,h3⟩:=BM hhp h1 hx
 have e1:ev x = .slice A 0 c:=e1
 have hq:=Go.Lib.run_eql_slice_nil (P:=P) s.w t e A 0 c 0 0 ht.und
 refine Bl (v:=.bool A.isNone) ?_ ⟨GS.Le.refl s,_,rfl⟩
 simp [execOp,e1,e2,eqGuard,hq]
theorem XD {x y:Operand} {t T T2 sz bytes id m b:Nat} {z z':Value} {d:TypeDesc} {rows:List (List D)} (hx:arg x = .own id) (hh:hp[id]? = some (.row T sz rows)) (hy:Eb hp (arg y) = some (slD T2 sz [])) (ht:Tab P t (.slice T) m b z') (hT:Tab P T d sz bytes z):Quiet P hp ⟨dd,.call { callee:=.builtin .append,args:=#[x,y],argTypes:=#[t,t] },ty,ps,af,gd⟩ arg (.own id):=by
 refine ⟨fun base s ρ ev hok hbs hhp h=>?_⟩
 have h1:=h x (by simp [Op.operands,Call.operands])
 have h2:=h y (by simp [Op.operands,Call.operands])
 rw [hx] at h1
 obtain ⟨hid,e1⟩:=h1
 obtain ⟨A,c,e2,_,_,_⟩:=BM hhp h2 hy
 obtain ⟨xs,⟨_,g2⟩,_⟩:=hhp id _ hh
 obtain ⟨i,hi,hz,hsize,hby⟩:=hT.info
 have hs:Src P i.size t (.slice A ([]:List (List D)).length c) 0 [] s.w:=by
  cases A with
  | none=>exact Src.ofNil s.w ht.und c
  | some a=>exact Src.ofSlice s.w ht.und a 0 c [] (by simp) (by simp) (by simp)
 obtain ⟨B,n0,c0,e3,hle⟩:∃ B n0 c0,ρ id = .slice B n0 c0∧n0≤c0:=by
  rcases g2 with ⟨g3,_⟩ | ⟨g,cap,cur,g3,_,_,g4,_⟩
  ·exact ⟨_,_,_,g3,Nat.le_refl _⟩
  ·exact ⟨_,_,_,g3,g4⟩
 have hr:=run_append_nothing s.w t t ty T i ht.und hi B n0 c0 hle _ hs
 have e2:ev y = .slice A ([]:List (List D)).length c:=e2
 refine Bl (v:=ρ id) ?_ ⟨GS.Le.refl s,hid,rfl⟩
 simp only [execOp,resolve,invoke,builtin,Sem.run_bind,Sem.run_pure,Result.andThen_ok,List.map_toArray,List.map_cons,List.map_nil,e1,e2,e3]
 rw [hr]
 rfl
end
section
variable {P : Program} {s0:An} {n:Nat} {ops:Array Oper} {Q:Exit→AS→Prop} {rest:List Oper} {fr:List (Nat × AV)} {hp hp':List Ow} {ty:TypeId} {ps:String} {af:Array Edge}
theorem Pk {c : Operand} {x y:Code} (hc:AS.arg ⟨fr,hp⟩ c = .d Yq) (h1:AWp P s0 n x Q ⟨fr,hp⟩) (h2:AWp P s0 n y Q ⟨fr,hp⟩):AWp P s0 n (.cond c x y) Q ⟨fr,hp⟩:=⟨fun a w hs=>by
 obtain ⟨s,ρ,hw,hst⟩:=hs
 have h:=hst.arg c
 rw [hc] at h
 obtain ⟨b,hb⟩:=h
 cases b with
 | true=>exact wp_cond_true hb (h1.run a w ⟨s,ρ,hw,hst⟩)
 | false=>exact wp_cond_false hb (h2.run a w ⟨s,ρ,hw,hst⟩)⟩
theorem XS {T sz:Nat} {rows:List (List D)} {frf:Nat→Nat→List (Nat × AV)} {hpf:Nat→List Ow} (id:Nat) (hh:hp[id]? = some (.obj (NI T sz rows))) (h0:0<rows.length) (hf:∀ g c,Fc id (sX g rows.length c) fr = some (frf g c)) (hpl:PlainHp id hp) (hs:∀ g,CZ hp id (.obj (Bj [⟨g,T,rows.flatten⟩])) = some (hpf g))
  (h:∀ g k,rows.length≤k→k≤9223372036854775807→AWl P s0 n ops Q rest ⟨frf g k,hpf g⟩):AWl P s0 n ops Q rest ⟨fr,hp⟩:=by
 refine ⟨fun a w ⟨s,ρ,hw,hst⟩=>?_⟩
 obtain ⟨xs,h2,h3,h4,h5,h6⟩:=hst.hp id _ hh
 obtain ⟨g,cap,cur,e1,hbg,hg,hnc,hcm,hcs,htake⟩:=h2.2.resolve_left (fun ⟨_,hn⟩=>by omega)
 have hflat:∀ (l:List (List D)),(∀ k,k<l.length→(l.getD k []).length = sz)→l.flatten.length = l.length*sz∧∀ k j,k<l.length→j<sz→By l.flatten (k*sz+j) = By (l.getD k []) j:=by
  intro l
  induction l with
  | nil=>intro _;exact ⟨by simp,fun k j hk=>by simp at hk⟩
  | cons r l ih =>
   intro hl
   have hr0:r.length = sz:=hl 0 (by simp)
   obtain ⟨i1,i2⟩:=ih fun k hk=>hl (k+1) (by simpa using hk)
   refine ⟨by simp only [List.flatten_cons,List.length_append,List.length_cons];rw [i1,hr0,Nat.succ_mul];omega,fun k j hk hj=>?_⟩
   cases k with
   | zero=>simp [By,List.getElem?_append,hr0,hj]
   | succ k =>
    have:=i2 k j (by simpa using hk) hj
    rw [Nat.succ_mul]
    simp only [List.flatten_cons,By,List.getD_cons_succ] at this ⊢
    rw [← this,List.getD_eq_getElem?_getD,List.getD_eq_getElem?_getD,List.getElem?_append_right (by omega),hr0]
    congr 2
    omega
 obtain ⟨f1,f2⟩:=hflat rows fun k hk=>(h6 k hk).1
 have hnp:∀ a,ρ id ≠ .pointer a:=fun a e=>by rw [e1] at e;cases e
 have hst':=hst.upd (s':=s) (o':=.obj (Bj [⟨g,T,rows.flatten⟩])) (ρ':=fun i=>if i = id then ρ id else ρ i) (f:=down id (sX g rows.length cap)) hst.le hst.ok (GS.Chg.refl s) hh (fun _ _ _=>⟨rfl,fun _=>Iff.rfl⟩) (fun j hj=>if_neg hj)
  (by
   refine ⟨fun w hw=>?_,by simp⟩
   rw [List.mem_singleton.1 hw]
   refine ⟨h3,fun k=>h5 g (by rw [e1];rfl) k,cur,hg,by show rows.flatten.length≤_;rw [f1,hcs];exact Nat.mul_le_mul_right _ hnc,fun k hk=>?_⟩
   have hk:k<rows.length*sz:=by rw [← f1];exact hk
   have hd1:=Nat.div_add_mod k sz
   have hkl:k / sz<rows.length:=Nat.div_lt_of_lt_mul (by rw [Nat.mul_comm];exact hk)
   have hkm:k % sz<sz:=Nat.mod_lt _ h4
   obtain ⟨u,r1,r2',r3⟩:=(h6 (k / sz) hkl).2 (k % sz) hkm
   have e3:k / sz*sz+k % sz = k:=by rw [Nat.mul_comm];exact hd1
   rw [e3] at r1
   refine ⟨u,?_,r2',?_⟩
   ·rw [← htake,List.getElem?_take,if_pos hk] at r1
    simpa using r1
   ·have:=f2 (k / sz) (k % sz) hkl hkm
    rw [e3] at this
    show (By rows.flatten k).rel s u
    rw [this]
    exact r3)
  (fun b hb=>by
   obtain ⟨w,hw,rfl⟩:=hb
   rw [List.mem_singleton.1 hw]
   exact .inl (by show DA (ρ id) = _;rw [e1];rfl)) (Kw (x:=sX g rows.length cap) e1 (GS.Chg.refl s) hnp)
 have hk:=h g cap hnc hcm
 rw [GF (hf g cap),Cp (hs g)] at hk
 rw [Cy hpl.ok] at hst'
 exact hk.run a w ⟨s,_,hw,hst'⟩
theorem XR {T sz:Nat} {rows:List (List D)} {frf:Nat→Nat→List (Nat × AV)} {hpf:Nat→Nat→List Ow} (id:Nat) (hh:hp[id]? = some (.obj (NI T sz rows))) (h0:0<rows.length) (hf:∀ g c,Fc id (sX g rows.length c) fr = some (frf g c)) (hpl:PlainHp id hp) (hs:∀ g k,CZ hp id (.obj (BH [⟨g,T,rows.flatten⟩] [k*sz])) = some (hpf g k))
  (h:∀ g k,rows.length≤k→k≤9223372036854775807→AWl P s0 n ops Q rest ⟨frf g k,hpf g k⟩):AWl P s0 n ops Q rest ⟨fr,hp⟩:=by
 refine ⟨fun a w ⟨s,ρ,hw,hst⟩=>?_⟩
 obtain ⟨xs,h2,h3,h4,h5,h6⟩:=hst.hp id _ hh
 obtain ⟨g,cap,cur,e1,hbg,hg,hnc,hcm,hcs,htake⟩:=h2.2.resolve_left (fun ⟨_,hn⟩=>by omega)
 have hflat:∀ (l:List (List D)),(∀ k,k<l.length→(l.getD k []).length = sz)→l.flatten.length = l.length*sz∧∀ k j,k<l.length→j<sz→By l.flatten (k*sz+j) = By (l.getD k []) j:=by
  intro l
  induction l with
  | nil=>intro _;exact ⟨by simp,fun k j hk=>by simp at hk⟩
  | cons r l ih =>
   intro hl
   have hr0:r.length = sz:=hl 0 (by simp)
   obtain ⟨i1,i2⟩:=ih fun k hk=>hl (k+1) (by simpa using hk)
   refine ⟨by simp only [List.flatten_cons,List.length_append,List.length_cons];rw [i1,hr0,Nat.succ_mul];omega,fun k j hk hj=>?_⟩
   cases k with
   | zero=>simp [By,List.getElem?_append,hr0,hj]
   | succ k =>
    have:=i2 k j (by simpa using hk) hj
    rw [Nat.succ_mul]
    simp only [List.flatten_cons,By,List.getD_cons_succ] at this ⊢
    rw [← this,List.getD_eq_getElem?_getD,List.getD_eq_getElem?_getD,List.getElem?_append_right (by omega),hr0]
    congr 2
    omega
 obtain ⟨f1,f2⟩:=hflat rows fun k hk=>(h6 k hk).1
 have hnp:∀ a,ρ id ≠ .pointer a:=fun a e=>by rw [e1] at e;cases e
 have hst':=hst.upd (s':=s) (o':=.obj (BH [⟨g,T,rows.flatten⟩] [cap*sz])) (ρ':=fun i=>if i = id then ρ id else ρ i) (f:=down id (sX g rows.length cap)) hst.le hst.ok (GS.Chg.refl s) hh (fun _ _ _=>⟨rfl,fun _=>Iff.rfl⟩) (fun j hj=>if_neg hj)
  (by
   refine ⟨⟨fun w hw=>?_,by simp⟩,fun i e z hi hz=>?_⟩
   rotate_left
   ·match i,hi,hz with
    | 0,hi,hz =>
     cases hi
     cases hz
     exact ⟨cur,T,_,hg,hcs⟩
   rw [List.mem_singleton.1 hw]
   refine ⟨h3,fun k=>h5 g (by rw [e1];rfl) k,cur,hg,by show rows.flatten.length≤_;rw [f1,hcs];exact Nat.mul_le_mul_right _ hnc,fun k hk=>?_⟩
   have hk:k<rows.length*sz:=by rw [← f1];exact hk
   have hd1:=Nat.div_add_mod k sz
   have hkl:k / sz<rows.length:=Nat.div_lt_of_lt_mul (by rw [Nat.mul_comm];exact hk)
   have hkm:k % sz<sz:=Nat.mod_lt _ h4
   obtain ⟨u,r1,r2',r3⟩:=(h6 (k / sz) hkl).2 (k % sz) hkm
   have e3:k / sz*sz+k % sz = k:=by rw [Nat.mul_comm];exact hd1
   rw [e3] at r1
   refine ⟨u,?_,r2',?_⟩
   ·rw [← htake,List.getElem?_take,if_pos hk] at r1
    simpa using r1
   ·have:=f2 (k / sz) (k % sz) hkl hkm
    rw [e3] at this
    show (By rows.flatten k).rel s u
    rw [this]
    exact r3)
  (fun b hb=>by
   obtain ⟨w,hw,rfl⟩:=hb
   rw [List.mem_singleton.1 hw]
   exact .inl (by show DA (ρ id) = _;rw [e1];rfl)) (Kw (x:=sX g rows.length cap) e1 (GS.Chg.refl s) hnp)
 have hk:=h g cap hnc hcm
 rw [GF (hf g cap),Cp (hs g cap)] at hk
 rw [Cy hpl.ok] at hst'
 exact hk.run a w ⟨s,_,hw,hst'⟩
theorem TA {x y:Operand} {t T T2 sz bytes m b e:Nat} {z z':Value} {d:TypeDesc} {r:List D} {hpf:Nat→Nat→List Ow} (id:Nat) (hx:AS.arg ⟨fr,hp⟩ x = .d (ex (.slice none 0 0))) (hh:hp[id]? = some (.obj (BH [] []))) (hT32:T ≠ 136) (hsz:0<sz) (hr:r.length = sz) (hy:Eb hp (AS.arg ⟨fr,hp⟩ y) = some (slD T2 sz [r]))
  (ht:Tab P t (.slice T) m b z') (hT:Tab P T d sz bytes z) (hzs:z.cells.size = sz) (hd:Nat.blt e n = true) (hbytes:(0+1)*bytes≤140737488355328) (hs:∀ g c,CZ hp id (.obj (BH [⟨g,T,r⟩] [c*sz])) = some (hpf g c))
  (h:∀ g c,1≤c→c≤9223372036854775807→AWl P s0 n ops Q rest ⟨(e,.d (sX g 1 c)) :: fr,hpf g c⟩):AWl P s0 n ops Q (⟨some e,.call { callee:=.builtin .append,args:=#[x,y],argTypes:=#[t,t] },ty,ps,af,none⟩ :: rest) ⟨fr,hp⟩:=by
 refine AWl.step rfl fun s ρ a hst K hK=>?_
 have e1:a.eval x = .slice none 0 0:=by
  have hx':=hst.arg x
  rw [hx] at hx'
  exact hx'
 obtain ⟨A,c1,e2,h7,h8,h9⟩:=BM hst.hp (hst.arg y) hy
 obtain ⟨gy,p,rfl,h10⟩:=h9 (by simp)
 obtain ⟨news,n1,n2,n3,n4⟩:=Jt h10
 obtain ⟨v',s',hr',q1,q2,q3,q4,q5,q6,q7⟩:=GW (P:=P) (ty:=ty) hst.le hst.ok ht.und hT hzs hT32 hsz (v:=.slice none 0 0) (n:=0) (xs:=[]) ⟨by simp,.inl ⟨rfl,rfl⟩⟩ (fun b hb=>by cases hb) (fun b hb k=>by cases hb) gy p 1 c1 news n1 Nat.one_pos n2 n3 hbytes (by decide)
 have hr':(Builtin.append_ #[t,t] ty #[.slice none 0 0,.slice (some ⟨gy,p,none⟩) 1 c1]).run P s.w = .ok v' s'.w:=hr'
 have e2:a.eval y = .slice (some ⟨gy,p,none⟩) 1 c1:=e2
 have hrun:(execOp a.eval ⟨some e,.call { callee:=.builtin .append,args:=#[x,y],argTypes:=#[t,t] },ty,ps,af,none⟩).run P s.w = .ok (.value v') s'.w:=by
  simp only [execOp,resolve,invoke,builtin,Sem.run_bind,Sem.run_pure,Result.andThen_ok,List.map_toArray,List.map_cons,List.map_nil,e1,e2,hr']
 unfold Oper.wp
 rw [hrun]
 obtain ⟨g,cap,cur,rfl,hbg,hg,hnc,hcm',hcs,htake⟩:=q4.2.resolve_left (fun ⟨_,hn⟩=>by omega)
 have hgo:s.w.heap.size≤g:=(q7 g rfl).resolve_left fun h=>by cases h
 have hSg:∀ k,¬ s.S g k:=fun k hk=>by
  have:=hst.ok.lt _ _ hk
  omega
 let s2:GS:=⟨fun b k=>s'.S b k∧b ≠ g,s'.tag,s'.w⟩
 have hc2:GS.Chg s s2:=⟨q3.size,fun b k hk=>⟨q3.up b k hk,fun e=>hSg k (e ▸ hk)⟩,fun b cs T fz hb=>by
  obtain ⟨cs',fz',r1,r2⟩:=q3.cell b cs T fz hb
  exact ⟨cs',fz',r1,fun k hk=>r2 k hk⟩⟩
 have hok2:s2.Ok:=⟨fun b k hk=>q2.lt b k hk.1,fun b k hty=>⟨q2.safe b k hty,fun e=>by
  subst e
  obtain ⟨cs,fz,hb⟩:=hty
  have hb:s'.w.heap[b]? = _:=hb
  rw [hg] at hb
  exact hT32 (Obj.cells.inj (Option.some.inj hb)).2.1⟩⟩
 have hle2:GS.LeX s0.mine s0.g s2:=⟨q1.os,q1.tape,q1.output,q1.block,hst.le.chg.trans hc2,fun b k hb hm hk=>q1.old b k hb hm hk.1,q1.tag,fun _=>hok2⟩
 have hfar:∀ b,b<s.w.heap.size→s'.w.heap[b]? = s.w.heap[b]? ∧ ∀ k,s2.S b k↔s.S b k:=fun b hb=>by
  obtain ⟨w1,w2⟩:=q6 b hb fun e=>by cases e
  exact ⟨w1,fun k=>⟨fun hk=>(w2 k).1 hk.1,fun hk=>⟨(w2 k).2 hk,fun e=>hSg k (e ▸ hk)⟩⟩⟩
 have hst':=hst.upd (s':=s2) (ρ':=ρ) (f:=fun x=>x) (o':=.obj (BH [⟨g,T,r⟩] [cap*sz])) hle2 hok2 hc2 hh
  (fun b hb _=>hfar b hb) (fun _ _=>rfl)
  (by
   refine ⟨⟨fun w hw=>?_,by simp⟩,fun j w zz hj hzz=>?_⟩
   ·rw [List.mem_singleton.1 hw]
    refine ⟨hT32,fun k hk=>hk.2 rfl,cur,hg,?_,fun k hk=>?_⟩
    ·show r.length≤cur.size
     rw [hr,hcs]
     have:=Nat.mul_le_mul_right sz hnc
     omega
    ·have hk : k < sz := by rw [← hr]; exact hk
     have hcur:cur[k]? = news[k]? := by
      have:(cur.toList.take ((0+1)*sz))[k]? = news[k]? := by rw [htake];rfl
      rw [← this,List.getElem?_take,if_pos (by omega)]
      simp
     obtain ⟨u,w1,w2,w3⟩:=n4 0 k Nat.one_pos hk
     rw [Nat.zero_mul,Nat.zero_add] at w1
     exact ⟨u,by rw [hcur];exact w1,w2,(By _ _).st w3 hc2⟩
   ·match j,hj,hzz with
    | 0,hj,hzz =>
     cases hj
     cases hzz
     exact ⟨cur,T,_,hg,hcs⟩)
  (fun b hb=>by
   obtain ⟨w,hw,rfl⟩:=hb
   rw [List.mem_singleton.1 hw]
   exact .inr hgo) fun av v h=>h.chg hc2
 rw [DG,CN] at hst'
 have hfin:=hst'.put (GS.Le.refl s2) (dst:=some e) (fun d hd'=>by cases hd';simpa [Nat.blt_eq] using hd) (v:=.slice (some ⟨g,0,none⟩) (0+1) cap) (r:=.d (sX g 1 cap)) rfl
 have hk:=h g cap hnc (by simpa [maxLen] using hcm')
 rw [Cp (hs g cap)] at hk
 exact hK _ _ _ hk ⟨s2,_,rfl,hfin⟩
theorem KY {L : List HE} {Z:List Nat} (id:Nat) (hh:hp[id]? = some (.obj (BH L Z))) (hs:CZ hp id (.obj (Bj L)) = some hp'):AS.le ⟨fr,hp⟩ ⟨fr,hp'⟩:=by
 rw [Cp hs]
 intro s0 n a w ⟨s,ρ,hw,hst⟩
 exact ⟨s,ρ,hw,hst.swap hh (DZ (hst.hp _ _ hh)).1 fun _ h=>h⟩
end
theorem PT (l : Af) (h0:0<l.length) (hn:l.length≤1000000):Con Tryz.prog 135 [.d (BF l)] [] [] (fun r hp'=>∃ g c,l.length≤c∧c≤9223372036854775807∧r = .d (sX g l.length c)∧hp' = [.dead,.obj (Bj [⟨g,55,En l⟩])]):=by
 have hml:(l.map AE).length = l.length:=List.length_map ..
 have h8:∀ k,k<(l.map AE).length→((l.map AE).getD k []).length = 8:=fun k hk=>by
  rw [List.getD_eq_getElem?_getD,List.getElem?_eq_getElem hk,Option.getD_some,List.getElem_map]
  rfl
 refine Fg Tryz.func135 rfl (As Tryz.func135 (by kernel_rfl) (by kernel_rfl)) rfl fun s0=>?_
 rw [Tryz.ntmps135]
 refine Y1<|Wa<|Y0<|Aa<|Y1<|Wm ?_
 refine Di rfl rfl ?_
 refine ⟨_,Mg (rows:=l.map AE) rfl (ao rfl) (Ac rfl) (by omega),?_⟩
 apply AWl.nil
 apply Yn
 refine Cf ?_
 apply Bf
 apply Yn
 apply Aa
 apply AWp.region
 refine Nn (Ac rfl) (Ac rfl) rfl rfl rfl rfl rfl ?_
 refine Ds (Wd 1 rfl rfl) ?_
 refine Di rfl rfl ?_
 refine ⟨_,DM (ao rfl),?_⟩
 refine Sb (r2:=l.map AE) (ao rfl) rfl h8 (by omega) rfl (Ac rfl) (Ac rfl) rfl rfl (by rw [hml];simp;omega) (by rw [hml];simp;omega) rfl (by first | ((repeat (first | exact PlainHp.nil | refine PlainHp.var ?_ | refine Dq ?_ | refine PlainHp.dead ?_ | refine PlainHp.obj ?_ | refine PlainHp.pin rfl ?_ | refine CS rfl ?_));done) | fail) rfl ?_
 refine XS 1 rfl (by rw [List.nil_append];omega) (fun g c=>rfl) (by first | ((repeat (first | exact PlainHp.nil | refine PlainHp.var ?_ | refine Dq ?_ | refine PlainHp.dead ?_ | refine PlainHp.obj ?_ | refine PlainHp.pin rfl ?_ | refine CS rfl ?_));done) | fail) (fun g=>rfl) fun g c hc1 hc2=>?_
 refine Wa<|Y0 ?_;apply Aw
 refine Bk (RetsA.one rfl) rfl ?_ rfl
 exact ⟨g,c,by rwa [List.nil_append,hml] at hc1,hc2,by rw [List.nil_append,hml],rfl⟩
theorem Id (l : Af) {q:Nat} (hq:q<l.length*8):(En l)[q]? = (AE (AC l (q / 8)))[q % 8]? := by
 have h1:=II l (i:=q / 8) (j:=q % 8) (by omega) (by omega)
 rw [show q / 8*8+q % 8 = q by omega] at h1
 have h2:q<(En l).length:=by rw [De];exact hq
 have h3:q % 8<(AE (AC l (q / 8))).length:=by rw [Cr];omega
 have h4:=Ic (a:=AC l (q / 8)) (i:=q % 8) (by omega)
 simp only [By,List.getD_eq_getElem?_getD] at h1 h4
 rw [List.getElem?_eq_getElem h2] at h1 ⊢
 rw [List.getElem?_eq_getElem h3] at h4 ⊢
 rw [Option.getD_some] at h1 h4
 rw [h1,h4]
theorem Hc {l : Af} {i:Nat} (hi:i<l.length):PartAt (En l) (i*8) 8 (AE (AC l i)):=by
 refine ⟨by rw [De];omega,?_⟩
 apply List.ext_getElem?
 intro q
 rw [List.getElem?_take]
 by_cases hq:q<8
 ·rw [if_pos hq,List.getElem?_drop,Id l (by omega),show (i*8+q) / 8 = i by omega,show (i*8+q) % 8 = q by omega]
 ·rw [if_neg hq,List.getElem?_eq_none (by rw [Cr];omega)]
theorem Kg (l : Af) (i:Nat) (a:Nat→Int) (k:Nat) (hi:i<l.length):AC (l.set i a) k = if k = i then a else AC l k:=by
 unfold AC
 rw [List.getD_eq_getElem?_getD,List.getD_eq_getElem?_getD,List.getElem?_set]
 by_cases e:i = k
 ·subst e
  rw [if_pos rfl,if_pos hi,if_pos rfl]
  rfl
 ·rw [if_neg e,if_neg fun h=>e h.symm]
theorem OS {l : Af} {i:Nat} {a:Nat→Int} (hi:i<l.length):SetAt (En l) (i*8) (AE a) (En (l.set i a)):=by
 have hle:i*8+(AE a).length≤(En l).length:=by rw [De,Cr];omega
 refine ⟨hle,?_⟩
 apply List.ext_getElem?
 intro q
 by_cases hq:q<l.length*8
 ·rw [Id (l.set i a) (by rw [List.length_set]; exact hq), Kg l i a _ hi]
  unfold Lx
  have ht:((En l).take (i*8)).length = i*8:=by rw [List.length_take,De];omega
  by_cases h1:q<i*8
  ·rw [List.getElem?_append_left (by omega),List.getElem?_take,if_pos h1,Id l hq,if_neg (by omega)]
  ·rw [List.getElem?_append_right (by omega), ht]
   by_cases h2:q<i*8+8
   ·rw [List.getElem?_append_left (by rw [Cr]; omega), if_pos (by omega)]
    congr 1
    omega
   ·rw [List.getElem?_append_right (by rw [Cr]; omega), List.getElem?_drop, Cr, if_neg (by omega), ← Id l hq]
    congr 1
    omega
 ·rw [List.getElem?_eq_none (by rw [Ck hle,De];omega),List.getElem?_eq_none (by rw [De,List.length_set];omega)]
def NG (l : Af):Nat→Af
 | 0=>l
 | k+1=>((NG l k).set k (AC (NG l k) (l.length - 1 - k))).set (l.length - 1 - k) (AC (NG l k) k)
theorem FV (l : Af):∀ k,(NG l k).length = l.length
 | 0=>rfl
 | k+1=>by rw [NG,List.length_set,List.length_set,FV l k]
theorem TY (l : Af):∀ k,k+k≤l.length→∀ q,q<l.length→AC (NG l k) q = if q<k∨l.length - k≤q then AC l (l.length - 1 - q) else AC l q
 | 0,_,q,hq=>by rw [if_neg (by omega)];rfl
 | k+1,hk,q,hq=>by
  have ih:=TY l k (by omega)
  have hl:=FV l k
  rw [NG,Kg _ _ _ _ (by rw [List.length_set,hl];omega),Kg _ _ _ _ (by rw [hl];omega),ih k (by omega),ih (l.length - 1 - k) (by omega),ih q hq]
  by_cases h1:q = l.length - 1 - k
  ·rw [if_pos h1, if_neg (by omega), if_pos (by omega)]
   congr 1
   omega
  ·rw [if_neg h1]
   by_cases h2:q = k
   ·rw [if_pos h2, if_neg (by omega), if_pos (by omega)]
    congr 1
    omega
   ·rw [if_neg h2]
    by_cases h3:q<k∨l.length - k≤q
    ·rw [if_pos h3,if_pos (by omega)]
    ·rw [if_neg h3,if_neg (by omega)]
theorem Wx (l : Af):NG l (l.length / 2) = l.reverse:=by
 apply List.ext_getElem
 ·rw [FV,List.length_reverse]
 ·intro q h1 h2
  rw [FV] at h1
  have h:=TY l (l.length / 2) (by omega) q h1
  have e1:AC (NG l (l.length / 2)) q = (NG l (l.length / 2))[q]'(by rw [FV];exact h1):=by rw [AC,List.getD_eq_getElem?_getD,List.getElem?_eq_getElem (by rw [FV];exact h1)];rfl
  have e2:∀ i,(hi:i<l.length)→AC l i = l[i]:=fun i hi=>by rw [AC,List.getD_eq_getElem?_getD,List.getElem?_eq_getElem hi];rfl
  rw [← e1,h,List.getElem_reverse]
  by_cases hc:q<l.length / 2∨l.length - l.length / 2≤q
  ·rw [if_pos hc,e2 _ (by omega)]
  ·rw [if_neg hc,e2 _ h1]
   congr 1
   omega
theorem NJ (l : Af) (g c:Nat) (Z:List Nat) (h0:0<l.length) (hn:l.length≤1000000):Con Tryz.prog 137 [.d (sX g l.length c)] [.obj (BH [⟨g,55,En l⟩] Z)] [] (fun r hp'=>r = .d Ch∧hp' = [.obj (BH [⟨g,55,En l.reverse⟩] Z),.dead]):=by
 refine BC Tryz.func137 rfl (As Tryz.func137 (by kernel_rfl) (by kernel_rfl)) rfl fun s0 pv0=>?_
 rw [Tryz.ntmps137]
 refine Y1<|Wm ?_;refine Wq (Dy (ao rfl) (Ac rfl)) ?_;refine Wq El ?_;refine Wa<|Wa<|Y0<|AWp.block ?_
 refine AK (fun mz σ=>∃ k,k≤l.length / 2∧mz = l.length / 2 - k∧σ = ⟨[(0,.d (sX g l.length c)),(2,.d (ex (.int .i64 (k:Nat)))),(3,.d (ex (.int .i64 ((l.length - 1 - k:Nat):Int))))],[.obj (BH [⟨g,55,En (NG l k)⟩] Z),.pin [(pv0,.own 0)]]⟩) ?le ⟨0,by omega,rfl,rfl⟩ ?round
 case le=>exact Ag (by exact Yd<|Yd<|Yd<|FrLe.nil) (by exact HpLe.cons (OwLe.obj rfl)<|HpLe.cons (Bb rfl)<|HpLe.nil)
 case round =>
  rintro mz _ ⟨k,hk,rfl,rfl⟩
  by_cases hlt:k<l.length / 2
  ·have hj : l.length - 1 - k < l.length := by omega
   have hkl:k<l.length:=by omega
   have hrl:=FV l k
   refine Aa<|Y1<|Wm<|Wm ?_;refine Wq Ar ?_;apply Y0;refine Ct ?_;refine Ys<|Aa<|AWp.block ?_
   refine Nq (Ln (e:=2) (e2:=3) (by kernel_rfl) (K4 (K4 (K4 (AddE.add (AddE.keep (AddE.keep (AddE.keep AddE.nil))))))) (by kernel_rfl) (K4 (K4 (K4 (AddE.add (AddE.keep (AddE.keep (AddE.keep AddE.nil))))))) (by kernel_rfl)) [[],[],[],[],[],[],[(18,4),(19,5)],[(20,6)],[],[],[(22,8),(23,9)],[(24,10)]] [[],[],[],[],[],[],[4,5],[4,5,6],[],[],[8,9],[8,9,10]] rfl (by kernel_rfl) (by kernel_rfl) (by kernel_rfl) ?_
   refine Xq Ae ?_;refine Xq Ae ?_;refine Xq Ae ?_;refine Xq Ae ?_;refine Xq Ae ?_;refine Xq Ae ?_;refine Xq (Co (k:=l.length - 1 - k) (ah rfl) (ah rfl) (Ac rfl) (Ac rfl) hj) ?_;refine Xq (VD (e:=⟨g,55,En (NG l k)⟩) 0 0 (ah rfl) rfl rfl (Ac rfl) rfl (Hc (i:=l.length - 1 - k) (by omega))) ?_;refine Xq Ae ?_;refine Xq Ae ?_;refine Xq (Co (k:=k) (ah rfl) (ah rfl) (Ac rfl) (Ac rfl) hkl) ?_;refine Xq (VD (e:=⟨g,55,En (NG l k)⟩) 0 0 (ah rfl) rfl rfl (Ac rfl) rfl (Hc (i:=k) (by omega))) ?_;refine ⟨_,rfl,?_⟩
   refine Wq (Co (k:=k) (ao rfl) (ao rfl) (Ac rfl) (Ac rfl) hkl) ?_;refine RV (e:=⟨g,55,En (NG l k)⟩) 0 0 (ao rfl) (ao rfl) rfl rfl (Ac rfl) rfl (OS (i:=k) (by omega)) rfl ?_;refine Wq (Co (k:=l.length - 1 - k) (ao rfl) (ao rfl) (Ac rfl) (Ac rfl) hj) ?_;(refine RV (e:=⟨g,55,En ((NG l k).set k (AC (NG l k) (l.length - 1 - k)))⟩) 0 0 (ao rfl) (ao rfl) rfl rfl (Ac rfl) rfl (OS (i:=l.length - 1 - k) (by rw [List.length_set];omega)) rfl ?_);apply AWl.nil;apply OnlyN.mk';apply Ah;refine Yn<|AWp.region<|Wm ?_;refine Wq AG ?_;refine Wm ?_;refine Wq El ?_;refine Wa<|Wa ?_;apply AWl.nil
   refine ALoop.next (l.length / 2 - (k+1)) (by omega) ⟨k+1,by omega,rfl,rfl⟩ ?_
   exact Ag (by exact Yd<|Yd<|Yd<|FrLe.nil) (by (refine HpLe.cons (OwLe.obj (by rw [NG];rfl)) ?_);exact HpLe.cons (Bb rfl)<|HpLe.nil)
  ·obtain rfl : k = l.length / 2 := by omega
   refine Aa<|Y1<|Wm<|Wm ?_;refine Wq Aq ?_;apply Y0;refine Cf ?_;apply AF;apply Az;apply AA;apply AB
   refine GL Ew rfl ?_ rfl
   exact ⟨rfl,by rw [Wx]⟩
abbrev moX : List TypeId:=[55]
theorem PK {s : GS} {g c:Nat} {R:Af} (h:Hset s ⟨g,55,En R⟩) (hc:R.length≤c) (hc':c≤9223372036854775807) {v:Value} (hv:(sX g R.length c).rel s v):(BF R).rel s v:=by
 obtain rfl:v = .slice (some ⟨g,0,none⟩) R.length c:=hv
 have hr:∀ k,k<R.length→(R.map AE).getD k [] = AE (AC R k):=fun k hk=>by
  rw [AC,List.getD_eq_getElem?_getD,List.getD_eq_getElem?_getD,List.getElem?_map,List.getElem?_eq_getElem hk]
  rfl
 refine h.sl rfl (List.length_map ..) hc hc' (fun k hk=>?_) fun k j hk hj=>?_
 ·rw [hr k (by simpa using hk)]
  rfl
 ·have hk : k < R.length := by simpa using hk
  refine ⟨by show _<(En R).length;rw [De];omega,?_⟩
  show By (En R) (k*8+j) = _
  rw [II R hk hj,hr k hk,Ic hj]
theorem Sy (m : Nat→Int) (R:Af) (g c:Nat) (Z:List Nat) (hc:R.length≤c) (hc':c≤9223372036854775807) (hn:R.length≤1000000):Con Tryz.prog 136 [.d (BK (AE m)),.ptr 0 0] [.var 28 ([sX g R.length c].map .d),.obj (BH [⟨g,55,En R⟩] Z)] [] (fun r hp'=>r = .d (ex (.bool (inB R m)))∧∃ c1:List D,hp' = [.var 28 ([sX g R.length c].map .d),.obj (BH [⟨g,55,En R⟩] Z),.dead,.var 55 (c1.map .d)]):=by
 refine HH Tryz.func136 rfl (As Tryz.func136 (by kernel_rfl) (by kernel_rfl)) rfl fun s0 pv0 pv1=>?_
 rw [Tryz.ntmps136]
 apply Y1;refine Bx ?_;refine Wa<|Y0<|Y1 ?_;refine Wq AL ?_;refine Wq Cb ?_;refine Wq (VI moX 1 (ao rfl) (Jw m R hn) rfl (ArgsZ.le rfl (D.le.refl _) (ArgsZ.set rfl (fun s hs v hv=>PK (hs _ List.mem_cons_self) hc hc' hv) ArgsZ.nil)) (fun e he=>by rw [List.mem_singleton.1 he];exact List.mem_cons_self) Qw) ?_;refine Wa<|Y0 ?_;apply Aw
 refine Bk (RetsA.one rfl) rfl ?_ rfl
 exact ⟨rfl,_,rfl⟩
theorem PL (m : Nat→Int):Con Tryz.prog 136 [.d (BK (AE m)),.ptr 0 0] [.var 28 ([ex (.slice none 0 0)].map .d)] [] (fun r hp'=>r = .d (ex (.bool false))∧∃ c1:List D,hp' = [.var 28 ([ex (.slice none 0 0)].map .d),.dead,.var 55 (c1.map .d)]):=by
 refine BC Tryz.func136 rfl (As Tryz.func136 (by kernel_rfl) (by kernel_rfl)) rfl fun s0 pv0=>?_
 rw [Tryz.ntmps136]
 apply Y1;refine Bx ?_;refine Wa<|Y0<|Y1 ?_;refine Wq AL ?_;refine Wq Cb ?_;refine Wq (Am (Jw m [] (by decide))) ?_;refine Wa<|Y0 ?_;apply Aw
 refine Bk (RetsA.one rfl) rfl ?_ rfl
 exact ⟨rfl,_,rfl⟩
theorem FP {x y z:AS} (h:AS.le x y) (h':AS.le y z):AS.le x z:=fun s0 n a w hs=>h' s0 n a w (h s0 n a w hs)
theorem QG {fr : List (Nat × AV)} {hp hp' hp1:List Ow} (hs1:CT hp (.obj (Bj [])) = some hp1) (hs:CT hp (.obj (BH [] [])) = some hp'):AS.le ⟨fr,hp⟩ ⟨fr,hp'⟩:=by
 refine FP (TH hs1) ?_
 rw [Cx hs,Cx hs1]
 intro s0 n a w ⟨s,ρ,hw,hst⟩
 have hat:(hp ++ [Ow.obj (Bj [])])[hp.length]? = some (.obj (Bj [])):=by simp
 have := hst.swap (o' := .obj (BH [] [])) hat ⟨hst.hp _ _ hat, fun i e z hi => by cases hi⟩ fun b hb => by
  obtain ⟨e,he,_⟩:=hb
  cases he
 rw [show (hp ++ [Ow.obj (Bj [])]).set hp.length (.obj (BH [] [])) = hp ++ [.obj (BH [] [])] by simp] at this
 exact ⟨s,ρ,hw,this⟩
theorem Be {e : Nat→Nat} {T:TypeId} {ds:List D}:(Ow.var T (ds.map .d)).ren e = Ow.var T (ds.map .d):=(Aj (e:=e) (T:=T) (ds:=ds)).symm
theorem Bo {e : Nat→Nat} {O:OD}:(Ow.obj O).ren e = Ow.obj O:=rfl
theorem Hx : ∀ (l R:Af) (m:Nat→Int),Eo R (l ++ [m]) = if inB (Eo R l) m = true then Eo R l else Eo R l ++ [m]
 | [],R,m=>rfl
 | a :: l,R,m=>by
  rw [List.cons_append,Eo,Eo]
  split
  ·exact Hx l R m
  ·exact Hx l (R ++ [a]) m
def MM (s : Af) (k:Nat):Af:=Eo [] (s.take k)
theorem Ih {s : Af} {k:Nat} (h:k<s.length):MM s (k+1) = if inB (MM s k) (AC s k) = true then MM s k else MM s k ++ [AC s k]:=by
 have e:s.take (k+1) = s.take k ++ [AC s k]:=by
  rw [List.take_add_one,List.getElem?_eq_getElem h,AC,List.getD_eq_getElem?_getD,List.getElem?_eq_getElem h]
  rfl
 rw [MM,e,Hx]
 rfl
theorem Jy (s : Af):∀ k,k≤s.length→(MM s k).length≤k
 | 0,_=>Nat.le_refl 0
 | k+1,h=>by
  have ih:=Jy s k (by omega)
  rw [Ih h]
  split
  ·omega
  ·rw [List.length_append]
   exact Nat.succ_le_succ ih
theorem Ru {s : Af} (h:0<s.length):MM s 1 = [AC s 0]:=by
 rw [Ih h]
 rfl
theorem Rt {s : Af}:∀ k,0<k→k≤s.length→0<(MM s k).length
 | 0,h,_=>absurd h (Nat.lt_irrefl 0)
 | 1,_,h=>by rw [Ru h];exact Nat.one_pos
 | k+2,_,h=>by
  have ih:=Rt (s:=s) (k+1) (by omega) (by omega)
  rw [Ih h]
  split
  ·exact ih
  ·rw [List.length_append]
   omega
noncomputable def He (l:Af):Af:=by
 classical
 exact if h:∃ R,IsMin l R then h.choose else []
theorem Ju {l R:Af} (h:IsMin l R):IsMin l (He l):=by
 have h':∃ R,IsMin l R:=⟨R,h⟩
 unfold He
 rw [dif_pos h']
 exact h'.choose_spec
theorem WJ (a : Nat→Int):En [a] = AE a:=by simp [En]
theorem Uz (l : Af) (a:Nat→Int):En (l ++ [a]) = En l ++ AE a:=by simp [En]
theorem Pe (l : Af) (h0:0<l.length) (hn:l.length≤1000) (hnn:∀ a∈l,∀ j,j<8→0≤a j):Abs Tryz.prog 95 [BF l] (BF (He l)):=by
 refine Ab Tryz.func95 fun s0=>?_
 rw [Tryz.ntmps95]
 refine Y1<|Wa<|Y0<|Y1<|Wm ?_
 refine Bi [] [] (PT l h0 (by omega)) (.inl rfl) rfl rfl (.inl ⟨rfl,rfl⟩) (by repeat (first | exact ArgsC.nil | refine ArgsC.d rfl (D.le.refl _) ?_ | refine AZ rfl rfl ?_)) (by decide) SelR.nil trivial rfl ?_
 rintro _ _ ⟨g,cg,hc1,hc2,rfl,rfl⟩
 refine ⟨_,_,_,(by first | exact AVRen.d | exact AVRen.own rfl | exact AVRen.ptr rfl | exact AVRen.fn rfl),(by repeat (first | exact SetR.nil | (apply SetR.cons;(first | exact OwRen.dead | exact Aj | exact OwRen.obj | exact Ao | exact Ak rfl);exact rfl))),(by repeat (first | exact AppR.nil | (apply AppR.cons;(first | exact OwRen.dead | exact Aj | exact OwRen.obj | exact Ao | exact Ak rfl);exact rfl))),?_⟩
 refine Wa<|Y0<|Y1<|Wm ?_
 refine Bi [1] [] (Ly l g cg (by omega)) (by first | exact Or.inl rfl | exact Or.inr ⟨by decide,rfl,by repeat (first | exact AvoidR.nil | refine AJ rfl ?_ | refine AvoidR.dead ?_ | refine AP ?_ | refine AvoidR.obj ?_ | refine AH ?_ | refine AI rfl ?_ | refine AvoidR.pin rfl ?_)⟩) rfl rfl (by first | exact .inl ⟨rfl,rfl⟩ | exact .inr ⟨rfl,rfl⟩) (by repeat (first | exact ArgsC.nil | refine ArgsC.d rfl (D.le.refl _) ?_ | refine AZ rfl rfl ?_)) (by decide) (by repeat (first | exact SelR.nil | refine SelR.var rfl ?_ | refine SelR.obj rfl ?_ | refine Bh rfl ?_ | refine Ba rfl rfl rfl ?_)) (by repeat (first | exact trivial | refine ⟨⟨_,_,rfl⟩,?_⟩)) rfl ?_
 rintro _ _ ⟨s,hperm,hsort,rfl,rfl⟩
 refine ⟨_,_,_,(by first | exact AVRen.d | exact AVRen.own rfl | exact AVRen.ptr rfl | exact AVRen.fn rfl),(by repeat (first | exact SetR.nil | (apply SetR.cons;(first | exact OwRen.dead | exact Aj | exact OwRen.obj | exact Ao | exact Ak rfl);exact rfl))),(by repeat (first | exact AppR.nil | (apply AppR.cons;(first | exact OwRen.dead | exact Aj | exact OwRen.obj | exact Ao | exact Ak rfl);exact rfl))),?_⟩
 have hsl:s.length = l.length:=hperm.length_eq
 refine Y0<|Y1 ?_;refine Al ?_;refine Y0<|Y1 ?_;refine Wq (Ft [2] rfl) ?_;refine Wa<|Y0<|Aa<|Y1<|Wm ?_;refine Wq (Dy (ao rfl) (Ac rfl)) ?_;refine Wm<|Y0<|AWp.block ?_
 refine AK (fun mz σ=>∃ k,k≤l.length∧mz = l.length - k∧((k = 0∧σ = ⟨[(4,.ptr 2 0),(5,.fn 136 [2]),(13,.d (sX g l.length cg)),(14,.d (ex (.int .i64 (l.length:Nat)))),(15,.d (ex (.int .i64 (k:Nat))))],[.dead,.obj (Bj [⟨g,55,En s⟩]),.var 28 ([ex (.slice none 0 0)].map .d),.obj (BH [] [])]⟩)∨(0<k∧∃ g2 c2,(MM s k).length≤c2∧c2≤9223372036854775807∧σ = ⟨[(4,.ptr 2 0),(5,.fn 136 [2]),(13,.d (sX g l.length cg)),(14,.d (ex (.int .i64 (l.length:Nat)))),(15,.d (ex (.int .i64 (k:Nat))))],[.dead,.obj (Bj [⟨g,55,En s⟩]),.var 28 ([sX g2 (MM s k).length c2].map .d),.obj (BH [⟨g2,55,En (MM s k)⟩] [c2*8])]⟩))) ?le ⟨0,by omega,rfl,.inl ⟨rfl,rfl⟩⟩ ?round
 case le =>
  refine FP (QG rfl rfl) ?_
  exact Ag (by exact Yp<|FrLe.cons rfl (AVle.fn rfl)<|Yd<|Yd<|Yd<|FrLe.nil) (by exact HpLe.cons (OwLe.dead)<|HpLe.cons (OwLe.obj rfl)<|Yv<|HpLe.cons (OwLe.obj rfl)<|HpLe.nil)
 case round =>
  rintro mz σ ⟨k,hk,rfl,h⟩
  by_cases hlt:k<l.length
  ·rcases h with ⟨rfl,rfl⟩ | ⟨hk0,g2,c2,hc3,hc4,rfl⟩
   ·refine Aa<|AWp.region ?_; refine Wq Ar ?_; apply AWl.nil; refine Yn<|Aa ?_; refine Ct ?_; apply Bf; refine Yn<|Aa<|AWp.block<|Aa<|AWp.region ?_; refine Wq (Co (k := 0) (ao rfl) (ao rfl) (Ac rfl) (Ac rfl) hlt) ?_; refine Wq (KQ (e := ⟨g, 55, En s⟩) 1 0 (ao rfl) rfl rfl (Ac rfl) rfl (Hc (i := 0) (by omega))) ?_; refine Al ?_; refine Sf ?_; apply AWl.nil; refine Yn<|Aa<|AWp.region<|Wm ?_; refine Wq AL ?_
    refine Bi [2] [0] (PL (AC s 0)) (by first | exact Or.inl rfl | exact Or.inr ⟨by decide,rfl,by repeat (first | exact AvoidR.nil | refine AJ rfl ?_ | refine AvoidR.dead ?_ | refine AP ?_ | refine AvoidR.obj ?_ | refine AH ?_ | refine AI rfl ?_ | refine AvoidR.pin rfl ?_)⟩) rfl rfl (by first | exact .inl ⟨rfl,rfl⟩ | exact .inr ⟨rfl,rfl⟩) (by repeat (first | exact ArgsC.nil | refine ArgsC.d rfl (D.le.refl _) ?_ | refine AZ rfl rfl ?_)) (by decide) (by repeat (first | exact SelR.nil | refine SelR.var rfl ?_ | refine SelR.obj rfl ?_ | refine Bh rfl ?_ | refine Ba rfl rfl rfl ?_)) (by repeat (first | exact trivial | refine ⟨⟨_,_,rfl⟩,?_⟩)) rfl ?_
    rintro _ _ ⟨rfl,c1,rfl⟩
    refine ⟨_,_,_,(by first | exact AVRen.d | exact AVRen.own rfl | exact AVRen.ptr rfl | exact AVRen.fn rfl),(by repeat (first | exact SetR.nil | (apply SetR.cons;(first | exact OwRen.dead | exact Aj | exact OwRen.obj | exact Ao | exact Ak rfl);exact rfl))),(by repeat (first | exact AppR.nil | (apply AppR.cons;(first | exact OwRen.dead | exact Aj | exact OwRen.obj | exact Ao | exact Ak rfl);exact rfl))),?_⟩
    simp only [Be,Bo]
    refine Wq Ci ?_;apply Y0;refine Ct ?_;apply AWp.region;refine Wq Cb ?_;refine Wq AL ?_;refine Wq (Ey (ao rfl) (Ac rfl) (Ac rfl) rfl rfl rfl rfl rfl) ?_
    refine TA (sz:=8) (r:=AE (AC s 0)) 3 (ao rfl) rfl (by decide) (by decide) rfl rfl (Ac rfl) (Ac rfl) rfl rfl (by decide) (fun g c=>rfl) fun g2 c2 hd1 hd2=>?_
    refine Iw (ao rfl) (ao rfl) rfl (Ac rfl) (by first | exact Bw rfl | exact One.sl | exact Cv) rfl rfl ?_;apply AWl.nil;apply Ah;refine Yn<|AWp.region ?_;refine Wq AG ?_;refine Wm ?_;apply AWl.nil
    have hk1:=Ru (s:=s) (by omega)
    refine ALoop.next (l.length - 1) (by omega) ⟨1,by omega,rfl,.inr ⟨Nat.one_pos,g2,c2,by rw [hk1];exact hd1,hd2,rfl⟩⟩ ?_
    exact Ag (by exact Yp<|FrLe.cons rfl (AVle.fn rfl)<|Yd<|Yd<|Yd<|FrLe.nil) (by refine HpLe.cons (OwLe.dead) ?_;refine HpLe.cons (OwLe.obj rfl) ?_;(refine HpLe.cons (Dz (by rw [hk1];rfl)) ?_);exact HpLe.cons (OwLe.obj (by rw [hk1,WJ]))<|HpLe.nil)
   ·refine Aa<|AWp.region ?_; refine Wq Ar ?_; apply AWl.nil; refine Yn<|Aa ?_; refine Ct ?_; apply Bf; refine Yn<|Aa<|AWp.block<|Aa<|AWp.region ?_; refine Wq (Co (k := k) (ao rfl) (ao rfl) (Ac rfl) (Ac rfl) hlt) ?_; refine Wq (KQ (e := ⟨g, 55, En s⟩) 1 0 (ao rfl) rfl rfl (Ac rfl) rfl (Hc (i := k) (by omega))) ?_; refine Al ?_; refine Sf ?_; apply AWl.nil; refine Yn<|Aa<|AWp.region<|Wm ?_; refine Wq AL ?_
    refine Bi [2,3] [0] (Sy (AC s k) (MM s k) g2 c2 [c2*8] hc3 hc4 (by have:=Jy s k (by omega);omega)) (by first | exact Or.inl rfl | exact Or.inr ⟨by decide,rfl,by repeat (first | exact AvoidR.nil | refine AJ rfl ?_ | refine AvoidR.dead ?_ | refine AP ?_ | refine AvoidR.obj ?_ | refine AH ?_ | refine AI rfl ?_ | refine AvoidR.pin rfl ?_)⟩) rfl rfl (by first | exact .inl ⟨rfl,rfl⟩ | exact .inr ⟨rfl,rfl⟩) (by repeat (first | exact ArgsC.nil | refine ArgsC.d rfl (D.le.refl _) ?_ | refine AZ rfl rfl ?_)) (by decide) (by repeat (first | exact SelR.nil | refine SelR.var rfl ?_ | refine SelR.obj rfl ?_ | refine Bh rfl ?_ | refine Ba rfl rfl rfl ?_)) (by repeat (first | exact trivial | refine ⟨⟨_,_,rfl⟩,?_⟩)) rfl ?_
    rintro _ _ ⟨rfl,c1,rfl⟩
    refine ⟨_,_,_,(by first | exact AVRen.d | exact AVRen.own rfl | exact AVRen.ptr rfl | exact AVRen.fn rfl),(by repeat (first | exact SetR.nil | (apply SetR.cons;(first | exact OwRen.dead | exact Aj | exact OwRen.obj | exact Ao | exact Ak rfl);exact rfl))),(by repeat (first | exact AppR.nil | (apply AppR.cons;(first | exact OwRen.dead | exact Aj | exact OwRen.obj | exact Ao | exact Ak rfl);exact rfl))),?_⟩
    simp only [Be,Bo]
    have hst:=Ih (s:=s) (k:=k) (by omega)
    cases hin:inB (MM s k) (AC s k) with
    | true =>
     rw [hin,if_pos rfl] at hst
     refine Wq Ci ?_;apply Y0;refine Cf ?_;apply Bf;apply Ah;refine Yn<|AWp.region ?_;refine Wq AG ?_;refine Wm ?_;apply AWl.nil
     refine ALoop.next (l.length - (k+1)) (by omega) ⟨k+1,by omega,rfl,.inr ⟨by omega,g2,c2,by rw [hst];exact hc3,hc4,rfl⟩⟩ ?_
     exact Ag (by exact Yp<|FrLe.cons rfl (AVle.fn rfl)<|Yd<|Yd<|Yd<|FrLe.nil) (by exact HpLe.cons (OwLe.dead)<|HpLe.cons (OwLe.obj rfl)<|HpLe.cons (Dz (by rw [hst]))<|HpLe.cons (OwLe.obj (by rw [hst]))<|HpLe.nil)
    | false =>
     rw [hin,if_neg (by decide)] at hst
     have hkl:=Jy s k (by omega)
     refine Wq Ci ?_;apply Y0;refine Ct ?_;apply AWp.region;refine Wq Cb ?_;refine Wq AL ?_;refine Wq (Ey (ao rfl) (Ac rfl) (Ac rfl) rfl rfl rfl rfl rfl) ?_
     refine Sa (sz:=8) (r:=AE (AC s k)) 3 0 (ao rfl) rfl rfl rfl (De _) (by decide) hc3 hc4 rfl rfl (Ac rfl) (Ac rfl) rfl rfl (by omega) (by omega) (fun g c=>rfl) fun g3 c3 hd1 hd2=>?_
     refine Iw (ao rfl) (ao rfl) rfl (Ac rfl) (by first | exact Bw rfl | exact One.sl | exact Cv) rfl rfl ?_;apply AWl.nil;apply Ah;refine Yn<|AWp.region ?_;refine Wq AG ?_;refine Wm ?_;apply AWl.nil
     refine ALoop.next (l.length - (k+1)) (by omega) ⟨k+1,by omega,rfl,.inr ⟨by omega,g3,c3,by rw [hst,List.length_append];exact hd1,hd2,rfl⟩⟩ ?_
     exact Ag (by exact Yp<|FrLe.cons rfl (AVle.fn rfl)<|Yd<|Yd<|Yd<|FrLe.nil) (by refine HpLe.cons (OwLe.dead) ?_;refine HpLe.cons (OwLe.obj rfl) ?_;(refine HpLe.cons (Dz (by rw [hst,List.length_append];rfl)) ?_);(refine HpLe.cons (OwLe.obj (by rw [hst,Uz];rfl)) ?_);exact HpLe.nil)
  ·rcases h with ⟨rfl,rfl⟩ | ⟨hk0,g2,c2,hc3,hc4,rfl⟩
   ·exact absurd h0 (by omega)
   ·obtain rfl : k = l.length := by omega
    have hkl:=Jy s l.length (by omega)
    have hkp:=Rt (s:=s) l.length h0 (by omega)
    apply Y1;refine Wq Aq ?_;refine Y0<|Aa ?_;refine Cf ?_;apply AF;apply Az;apply AA;apply AB;refine Yn<|Y1 ?_;refine Wq Cb ?_
    refine Bi [3] [] (NJ (MM s l.length) g2 c2 [c2*8] hkp (by omega)) (by first | exact Or.inl rfl | exact Or.inr ⟨by decide,rfl,by repeat (first | exact AvoidR.nil | refine AJ rfl ?_ | refine AvoidR.dead ?_ | refine AP ?_ | refine AvoidR.obj ?_ | refine AH ?_ | refine AI rfl ?_ | refine AvoidR.pin rfl ?_)⟩) rfl rfl (by first | exact .inl ⟨rfl,rfl⟩ | exact .inr ⟨rfl,rfl⟩) (by repeat (first | exact ArgsC.nil | refine ArgsC.d rfl (D.le.refl _) ?_ | refine AZ rfl rfl ?_)) (by decide) (by repeat (first | exact SelR.nil | refine SelR.var rfl ?_ | refine SelR.obj rfl ?_ | refine Bh rfl ?_ | refine Ba rfl rfl rfl ?_)) (by repeat (first | exact trivial | refine ⟨⟨_,_,rfl⟩,?_⟩)) rfl ?_
    rintro _ _ ⟨rfl,rfl⟩
    refine ⟨_,_,_,(by first | exact AVRen.d | exact AVRen.own rfl | exact AVRen.ptr rfl | exact AVRen.fn rfl),(by repeat (first | exact SetR.nil | (apply SetR.cons;(first | exact OwRen.dead | exact Aj | exact OwRen.obj | exact Ao | exact Ak rfl);exact rfl))),(by repeat (first | exact AppR.nil | (apply AppR.cons;(first | exact OwRen.dead | exact Aj | exact OwRen.obj | exact Ao | exact Ak rfl);exact rfl))),?_⟩
    simp only [Bo]
    have hmin:IsMin l (MM s l.length).reverse:=by
     have:=Ol (l:=l) (s:=s) (fun x=>hperm.mem_iff) hnn hsort
     rwa [show Eo [] s = MM s l.length by rw [MM,List.take_of_length_le (by omega)]] at this
    apply AWl.nil
    apply Yn
    apply Aa
    apply AWp.region
    refine Di rfl rfl ?_
    refine ⟨_,RP (ao rfl) rfl (Ac rfl) rfl rfl,?_⟩
    refine Ds (FP (KY 3 rfl rfl) (Fh (R:=BF (MM s l.length).reverse) 3 30 rfl rfl rfl rfl fun s' hs v hv=>PK (R:=(MM s l.length).reverse) (hs _ List.mem_cons_self) (by rw [List.length_reverse];exact hc3) hc4 (by rw [List.length_reverse];exact hv))) ?_
    refine Wa<|Y0 ?_;apply Aw
    exact Cq (Rets.of1 (ResV.tmp rfl rfl) (KT (Uy (hmin.same (Ju hmin)))))
end Go.Proofs.YtialdhnijjnpaaaGreat
