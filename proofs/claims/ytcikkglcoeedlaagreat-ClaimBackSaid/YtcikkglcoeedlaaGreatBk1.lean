/- Part 1. No condition. -/
import Derived.BigQuiet
import Derived.Deep.QuietTactic
import Derived.Deep.RegionHeld3
import Derived.Laws.AppendOwnNone
import Derived.Test.YtcikkglcoeedlaaGreatRows
import Derived.WalkKit
import Derived.WalkLawsBesides
import Derived.WalkSpells
set_option linter.unusedSimpArgs false
set_option linter.unusedVariables false
set_option linter.defProp false
set_option maxRecDepth 100000
set_option maxHeartbeats 800000
namespace Go.Proofs
abbrev Yaa:=@List.length_append
abbrev Yab:=@List.getD_eq_getElem?_getD
abbrev Yac:=@List.getElem?_eq_getElem
abbrev Yad:=@decide_eq_false
abbrev Yae:=@List.getElem?_eq_some_iff
abbrev Yaf:=@List.append_assoc
abbrev Yag:=@Option.some.inj
abbrev Yah:=@Nat.le_refl
abbrev Yai:=@if_neg
abbrev Yaj:=@List.all_eq_true
abbrev Yak:=@decide_eq_true
abbrev Yal:=@List.getElem?_append_right
abbrev Yam:=@Bool.and_eq_true
abbrev Yan:=@if_pos
abbrev Yao:=@Nat.eq_of_beq_eq_true
abbrev Yap:=@List.take_of_length_le
abbrev Yaq:=@Nat.lt_of_lt_of_le
abbrev Yar:=@List.length_map
abbrev Yas:=@Nat.mul_le_mul_left
abbrev Yat:=@Nat.le_trans
abbrev Yau:=@List.getElem?_append_left
abbrev Yav:=@List.length_cons
abbrev Yaw:=@Nat.zero_le
abbrev Yax:=@List.getElem?_map
abbrev Yay:=@Array.getD_eq_getD_getElem?
abbrev Yaz:=@Nat.eq_zero_or_pos
abbrev YaA:=@List.mem_map
abbrev YaB:=@Nat.mul_le_mul_right
abbrev YaC:=@List.mem_singleton
abbrev YaD:=@Nat.mul_add
abbrev YaE:=@List.mem_of_getElem?
abbrev YaF:=@List.eq_nil_of_length_eq_zero
abbrev YaG:=@Nat.lt_or_ge
abbrev YaH:=@Nat.zero_add
abbrev YaI:=@Nat.ne_of_beq_eq_false
abbrev YaJ:=@List.getElem?_take
abbrev YaK:=@List.mem_cons
abbrev YaL:=@List.drop_eq_nil_of_le
abbrev YaM:=@Nat.mul_comm
abbrev YaN:=@Array.getElem?_eq_getElem
abbrev YaO:=@List.length_take
abbrev YaP:=@Array.getElem?_setIfInBounds_ne
abbrev YaQ:=@List.getElem?_append
abbrev YaR:=@Int.natAbs_natCast
abbrev YaS:=@Nat.mod_eq_of_lt
abbrev YaT:=@Nat.mod_lt
abbrev YaU:=@List.drop_zero
abbrev YaV:=@List.take_length
abbrev YaW:=@Nat.mul_le_mul
abbrev YaX:=@List.map_congr_left
abbrev YaY:=@Nat.mul_assoc
abbrev YaZ:=@List.mem_range
abbrev Yba:=@List.setIfInBounds_toArray
abbrev Ybb:=@decide_eq_true_eq
abbrev Ybc:=@List.mem_cons_of_mem
abbrev Ybd:=@Nat.add_zero
abbrev Ybe:=@Int.sign_eq_neg_one_of_neg
abbrev Ybf:=@List.map_cons
abbrev Ybg:=@Bool.or_eq_true
abbrev Ybh:=@Nat.not_lt_zero
abbrev Ybi:=@List.take_succ_cons
abbrev Ybj:=@Nat.mul_left_comm
abbrev Ybk:=@Nat.pow_le_pow_right
abbrev Ybl:=@List.mem_of_find?_eq_some
abbrev Ybm:=@Nat.blt_eq
abbrev Ybn:=@List.mem_cons_self
abbrev Ybo:=@Int.sign_eq_one_of_pos
abbrev Ybp:=@List.drop_succ_cons
abbrev Ybq:=@Nat.pow_succ
abbrev Ybr:=@List.mem_of_mem_take
abbrev Ybs:=@Nat.lt_of_mul_lt_mul_left
abbrev Ybt:=@List.getElem_mem
abbrev Ybu:=@Nat.min_eq_left
abbrev Ybv:=@List.length_nil
abbrev Ybw:=@Nat.div_lt_of_lt_mul
abbrev Ybx:=@Array.getElem?_eq_some_iff
abbrev Yby:=@List.set_cons_succ
abbrev Ybz:=@Nat.pos_of_ne_zero
abbrev YbA:=@Nat.le_of_ble_eq_true
abbrev YbB:=@Nat.mul_one
abbrev YbC:=@Nat.add_mul
abbrev YbD:=@List.append_nil
abbrev YbE:=@List.getElem?_toArray
abbrev YbF:=@List.getElem?_eq_none
abbrev YbG:=@List.contains_iff_mem
abbrev YbH:=@Int.eq_ofNat_of_zero_le
abbrev YbI:=@Nat.div_eq_of_lt
abbrev YbJ:=@Nat.gcd_dvd_right
abbrev YbK:=@List.getElem?_of_mem
abbrev YbL:=@Int.le_refl
abbrev YbM:=@Nat.add_assoc
abbrev YbN:=@List.set_cons_zero
abbrev YbO:=@List.getElem?_drop
abbrev YbP:=@List.mem_append
abbrev YbQ:=@List.length_drop
abbrev YbR:=@Nat.zero_lt_succ
abbrev YbS:=@Int.tdiv_eq_ediv_of_nonneg
abbrev YbT:=@Nat.le_of_lt
abbrev YbU:=@Nat.lt_of_le_of_lt
abbrev YbV:=@Nat.add_sub_cancel
abbrev YbW:=@Nat.mod_eq_zero_of_dvd
abbrev YbX:=@List.take_zero
abbrev YbY:=@List.mem_map_of_mem
abbrev YbZ:=@List.getElem?_set
abbrev Yca:=@List.take_append_drop
abbrev Ycb:=@List.ext_getElem?
abbrev Ycc:=@List.map_map
abbrev Ycd:=@List.mem_zipIdx_iff_getElem?
abbrev Yce:=@List.find?_eq_none
abbrev Ycf:=@Nat.lt_irrefl
abbrev Ycg:=@List.map_append
abbrev Ych:=@List.mem_of_mem_drop
abbrev Yci:=@List.any_eq_true
abbrev Ycj:=@List.take_succ_eq_append_getElem
abbrev Yck:=@Int.tmod_eq_emod_of_nonneg
abbrev Ycl:=@Nat.lt_trichotomy
abbrev Ycm:=@List.getElem?_eq_none_iff
abbrev Ycn:=@List.drop_eq_getElem_cons
abbrev Yco:=@Int.mul_nonneg
abbrev Ycp:=@Int.natAbs_mul
abbrev Ycq:=@Int.natCast_add
abbrev Ycr:=@Array.getElem?_toList
abbrev Ycs:=@List.map_nil
abbrev Yct:=@List.length_set
abbrev Ycu:=@Nat.mul_zero
abbrev Ycv:=@List.range_succ
abbrev Ycw:=@Option.isSome_iff_exists
abbrev Ycx:=@BitVec.toNat_ofNat
abbrev Ycy:=@List.cons_append
abbrev Ycz:=@Nat.shiftLeft_add_eq_or_of_lt
abbrev YcA:=@Nat.one_mul
abbrev YcB:=@Nat.gcd_dvd_left
abbrev YcC:=@Nat.zero_mul
abbrev YcD:=@beq_iff_eq
abbrev YcE:=@List.find?_some
abbrev YcF:=@Nat.mod_add_div
abbrev YcG:=@Nat.pow_add
abbrev YcH:=@List.nil_append
abbrev YcI:=@List.getElem_of_mem
abbrev YcJ:=@List.map_toArray
abbrev YcK:=@Nat.gcd_comm
abbrev YcL:=@List.pairwise_iff_getElem
abbrev YcM:=@List.getElem?_set_ne
abbrev YcN:=@Nat.mul_add_div
abbrev YcO:=@List.take_add_one
abbrev YcP:=@Bool.eq_iff_iff
abbrev YcQ:=@Nat.beq_refl
abbrev YcR:=@List.getElem?_cons_succ
abbrev YcS:=@Nat.mul_pos
abbrev YcT:=@decide_eq_decide
abbrev YcU:=@Int.ofNat_dvd_left
abbrev YcV:=@Nat.div_add_mod
abbrev YcW:=@Nat.succ_mul
abbrev YcX:=@Nat.add_comm
abbrev YcY:=@Nat.two_pow_pos
abbrev YcZ:=@Nat.ble_eq_true_of_le
abbrev Yda:=@List.length_singleton
abbrev Ydb:=@List.size_toArray
abbrev Ydc:=@Option.some.injEq
abbrev Ydd:=@List.flatMap_cons
abbrev Yde:=@Rat.divInt_eq_div
abbrev Ydf:=@Array.getElem?_append_left
abbrev Ydg:=@Nat.mul_lt_mul_of_pos_left
abbrev Ydh:=@Classical.byContradiction
abbrev Ydi:=@List.drop_drop
abbrev Ydj:=@Int.sign_eq_zero_iff_zero
abbrev Ydk:=@Int.natCast_ediv
abbrev Ydl:=@Int.natCast_emod
abbrev Ydm:=@List.getD_cons_succ
abbrev Ydn:=@List.getElem?_range
abbrev Ydo:=@Nat.sub_self
abbrev Ydp:=@Int.mul_nonpos_of_nonpos_of_nonneg
abbrev Ydq:=@Nat.div_lt_self
abbrev Ydr:=@Int.natCast_mul
abbrev Yds:=@Option.map_some
abbrev Ydt:=@Nat.mul_add_mod
abbrev Ydu:=@List.pairwise_cons
abbrev Ydv:=@List.foldl_cons
abbrev Ydw:=@Nat.mul_div_cancel_left
abbrev Ydx:=@decide_eq_false_iff_not
abbrev Ydy:=@Array.ext_getElem?
abbrev Ydz:=@Nat.le_of_dvd
abbrev YdA:=@Array.count_toList
abbrev YdB:=@Nat.zero_lt_one
abbrev YdC:=@Array.getElem?_extract
abbrev YdD:=@Rat.normalize_eq_mkRat
abbrev YdE:=@Int.toNat_natCast
abbrev YdF:=@Int.lt_trichotomy
abbrev YdG:=@of_decide_eq_true
abbrev YdH:=@Array.getElem?_modify
abbrev YdI:=@Nat.div_lt_iff_lt_mul
abbrev YdJ:=@Nat.and_two_pow_sub_one_eq_mod
abbrev YdK:=@List.length_replicate
abbrev YdL:=@List.eq_nil_iff_forall_not_mem
abbrev YdM:=@Int.mul_le_mul_of_nonneg_right
abbrev YdN:=@Nat.shiftLeft_eq
abbrev YdO:=@Iff.rfl
abbrev YdP:=@List.mem_toArray
abbrev YdQ:=@Int.mul_le_mul_of_nonneg_left
abbrev YdR:=@Nat.succ_lt_succ
abbrev YdS:=@BitVec.ofInt_natCast
abbrev YdT:=@List.map_drop
abbrev YdU:=@List.map_take
abbrev YdV:=@Nat.dvd_trans
abbrev YdW:=@Nat.ble_eq
abbrev YdX:=@List.mem_filter
abbrev YdY:=@List.replicate_succ
abbrev YdZ:=@BitVec.toNat_or
abbrev Yea:=@Int.natCast_one
abbrev Yeb:=@Array.size_push
abbrev Yec:=@Nat.le_succ
abbrev Yed:=@Array.length_toList
abbrev Yee:=@Nat.lt_mul_div_succ
abbrev Yef:=@Nat.pow_pos
abbrev Yeg:=@Nat.mul_lt_mul_of_pos_right
abbrev Yeh:=@Int.one_mul
abbrev Yei:=@Nat.lt_of_mul_lt_mul_right
abbrev Yej:=@Nat.lt_trans
abbrev Yek:=@Int.le_trans
abbrev Yel:=@Int.emod_lt_of_pos
abbrev Yem:=@Array.all_eq_true'
abbrev Yen:=@List.take_left
abbrev Yeo:=@Nat.shiftRight_eq_div_pow
abbrev Yep:=@Int.natAbs_neg
abbrev Yeq:=@Int.mul_neg_of_neg_of_pos
abbrev Yer:=@Nat.eq_of_mul_eq_mul_left
abbrev Yes:=@Nat.or_lt_two_pow
abbrev Yet:=@Bool.eq_false_iff
abbrev Yeu:=@List.foldl_append
abbrev Yev:=@List.length_range
abbrev Yew:=@List.map_id
abbrev Yex:=@Option.bind_some
abbrev Yey:=@List.mem_flatMap
abbrev Yez:=@Nat.lt_succ_self
abbrev YeA:=@List.not_mem_nil
abbrev YeB:=@Option.map_none
abbrev YeC:=@Rat.num_eq_zero
abbrev YeD:=@List.find?_cons
abbrev YeE:=@Int.mul_ne_zero
abbrev YeF:=@Int.emod_nonneg
abbrev YeG:=@Nat.div_le_self
abbrev YeH:=@Rat.num_intCast
abbrev YeI:=@Nat.testBit_or
abbrev YeJ:=@List.take_take
abbrev YeK:=@Int.mul_neg
abbrev YeL:=@Nat.gcd_rec
abbrev YeM:=@Nat.div_pos
abbrev YeN:=@Int.mul_pos
structure Zaa(q:Prop):Prop where
 a:q
section
variable{p q:Prop}
theorem Zbv(h:p:=by
 refine Fc 184 5 ZbH ZbH rfl ?_;refine AC (λu B=>∃k v,k<=g/\u=g-k/\B=⟨[(3,.ptr 0 0),(4,.ptr 1 0),(5,.ptr 2 0),(6,.ptr 3 0),(7,.d (Ba (AZ L))),(8,.d (ex (.int .i64 ((E.length:Nat):Int)))),(9,.ptr 4 0),(10,.d (ex (.int .i64 (g:Nat)))),(11,.d (ex (.int .i64 (k:Nat))))],[.var 58 ((He T K N L V).map .d),.var 26 (([ex (.int .i64 X),Ba E,F]:List D).map .d),.var 34 (([ex (.int .i64 M),a,ex (.int .i64 n),ex (.int .i64 d),ex (.int .i64 r),Z,Ba O,R,W]:List D).map .d),.var 46 ((EJ 0 Ao Ao Ao Ao Ao Ao Ao Ao Ao Ao).map .d),.var 46 ((EJ 0 (Ba (pQ (AZ L) 1 E.length)) Ao Ao Ao Ao Ao Ao (ex v) Ao Ao).map .d),.obj (Ma v 184 5 (US (AZ L) V k))]⟩) ?le ⟨0,.slice none 0 0,by omega,rfl,rfl⟩ ?round
 case le=>exact Ac Zct Zer
 case round=>
  rintro u _ ⟨k,v,C,rfl,rfl⟩;by_cases Q:k<g
  .have b:=CH K V e k ZbD J
   have o:=Cj e k;have j:=Ke (AR V k) 5 ZbD ZbD ZbH ZbH;have t:Abs Tryz.prog 62 [Ba (AZ L),ex (.int .i64 (k:Nat)),ex (.int .i64 (1:Nat))] (Ba [pP (AZ L) k]):=Eu (AZ L) k 1 ZbD ZbH ZbD;refine Go ?_;refine FJ 5 (.obj (Ma v 184 5 (US (AZ L) V k))) (.row 184 5 (US (AZ L) V k++[DA (Rat.divInt (AR V k) 5)++[BS (pP (AZ L) k)]])) 16 18 [17,16,15,14,13,12,11,10,9,8,7,6,5,4,3,2,1,0] [] [.ptr 4 25,.d (ex v),.ptr 0 2,.d (Ol K V),.d (ex (.int .i64 (k:Nat))),.d (ex (.int .i64 (AR V k))),.d (ex (.int .i8 (AR V k))),.d (AP [ex (.int .i8 (AR V k)),ex (.int .i8 5),ex (.int .u8 0)]),.d (AP (DA (Rat.divInt (AR V k) 5))),.d (Ba (AZ L)),.d (ex (.int .i64 (k:Nat))),.d (Ba [pP (AZ L) k]),.d (Fg 28 [BS (pP (AZ L) k)]),.d (BS (pP (AZ L) k)),.d (AP (DA (Rat.divInt (AR V k) 5)++[BS (pP (AZ L) k)])),.d (slD 184 5 [DA (Rat.divInt (AR V k) 5)++[BS (pP (AZ L) k)]]),.own 5,.ptr 4 25] [[],[(59,0)],[],[(61,2)],[],[(62,3),(63,4)],[(64,5)],[(65,6)],[(66,7)],[],[],[(68,9),(69,10)],[(70,11)],[(71,12)],[(67,8),(72,13)],[(73,14)],[(60,1),(74,15)],[]] [(3,.ptr 0 0),(4,.ptr 1 0),(5,.ptr 2 0),(6,.ptr 3 0),(7,.d (Ba (AZ L))),(8,.d (ex (.int .i64 ((E.length:Nat):Int)))),(9,.ptr 4 0),(10,.d (ex (.int .i64 (g:Nat)))),(11,.d (ex (.int .i64 (k:Nat))))] [(75,.own 5),(76,.ptr 4 25),(3,.ptr 0 0),(4,.ptr 1 0),(5,.ptr 2 0),(6,.ptr 3 0),(7,.d (Ba (AZ L))),(8,.d (ex (.int .i64 ((E.length:Nat):Int)))),(9,.ptr 4 0),(10,.d (ex (.int .i64 (g:Nat)))),(11,.d (ex (.int .i64 (k:Nat))))] ZbI rfl ⟨rfl,rfl,rfl,rfl,rfl,rfl,rfl,rfl,rfl,trivial⟩ rfl rfl ZbI ZbI ZbI (by refine DSteps.q rfl ZbB ?_;refine DSteps.q rfl ZbB ?_;refine DSteps.q rfl ZbB ?_;refine DSteps.q rfl ZbB ?_;refine DSteps.q rfl ZbB ?_;refine DSteps.q rfl (λ_=>BP (ah rfl) b (ArgsLe.cons rfl (D.le.refl _) (ArgsLe.cons rfl (D.le.refl _) ArgsLe.nil))) ?_;refine DSteps.q rfl (λ_=>AO (r:=AR V k) (ah rfl) (Aa rfl) (Aa rfl) (VR ZbD ZbD)) ?_;refine DSteps.q rfl ZbB ?_;refine DSteps.q rfl (λ_=>BP (ah rfl) j (ArgsLe.cons rfl (D.le.refl _) ArgsLe.nil)) ?_;refine DSteps.q rfl ZbB ?_;refine DSteps.q rfl ZbB ?_;refine DSteps.q rfl (λ_=>BP (ah rfl) t (ArgsLe.cons rfl (D.le.refl _) (ArgsLe.cons rfl (D.le.refl _) (ArgsLe.cons rfl (D.le.refl _) ArgsLe.nil)))) ?_;refine DSteps.q rfl (λ_=>Ir (f:=λP=>[BS P]) (a:=pP (AZ L) k) (l:=[]) rfl (ah rfl) (Aa rfl) (Aa rfl) rfl) ?_;refine DSteps.q rfl (λ_=>Gm (ah rfl) (Aa rfl) rfl rfl) ?_;refine DSteps.q rfl ZbB ?_;refine DSteps.q rfl (λ_=>Cb (ah rfl) (Aa rfl) (Aa rfl) rfl rfl rfl rfl rfl) ?_;refine DSteps.k rfl (DTurn.rows rfl rfl rfl (Aa rfl) (Aa rfl) rfl rfl rfl rfl Zip Zip) ?_;refine DSteps.q rfl ZbB ?_;exact DSteps.nil) ZbI ZbI ⟨rfl,rfl,rfl,rfl,rfl,rfl,rfl,rfl,rfl,rfl,rfl,trivial⟩ [.var 58 ((He T K N L V).map .d),.var 26 (([ex (.int .i64 X),Ba E,F]:List D).map .d),.var 34 (([ex (.int .i64 M),a,ex (.int .i64 n),ex (.int .i64 d),ex (.int .i64 r),Z,Ba O,R,W]:List D).map .d),.var 46 ((EJ 0 Ao Ao Ao Ao Ao Ao Ao Ao Ao Ao).map .d),.var 46 ((EJ 0 (Ba (pQ (AZ L) 1 E.length)) Ao Ao Ao Ao Ao Ao (ex v) Ao Ao).map .d),.row 184 5 (US (AZ L) V k++[DA (Rat.divInt (AR V k) 5)++[BS (pP (AZ L) k)]])] rfl ?_;refine En (ao rfl) (ao rfl) rfl (Aa rfl) (One.own rfl) rfl rfl ?_;refine AWl.nil<|Bh<|Yn ?_;(refine FU 5 184 5 (US (AZ L) V (k+1)) (by rw[Xc];rfl) λY=>?_);refine AWp.region<|Wm ?_;refine Wq CJ ?_;refine Wa<|AWl.nil ?_
   skip
   refine Ah (g-(k+1)) ZbD ⟨k+1,Y,by omega,rfl,rfl⟩ ?_;exact Ac Zct Zdl
  .obtain rfl:k=g:=by omega
   refine DT (σ':=⟨[(3,.ptr 0 0),(4,.ptr 1 0),(5,.ptr 2 0),(6,.ptr 3 0),(7,.d (Ba (AZ L))),(8,.d (ex (.int .i64 ((E.length:Nat):Int)))),(9,.ptr 4 0),(10,.d (ex (.int .i64 (k:Nat)))),(11,.d (ex (.int .i64 (k:Nat))))],[.var 58 ((He T K N L V).map .d),.var 26 (([ex (.int .i64 X),Ba E,F]:List D).map .d),.var 34 (([ex (.int .i64 M),a,ex (.int .i64 n),ex (.int .i64 d),ex (.int .i64 r),Z,Ba O,R,W]:List D).map .d),.var 46 ((EJ 0 Ao Ao Ao Ao Ao Ao Ao Ao Ao Ao).map .d),.var 46 ((EJ 0 (Ba (pQ (AZ L) 1 E.length)) Ao Ao Ao Ao Ao Ao (slD 184 5 (US (AZ L) V k)) Ao Ao).map .d),.dead]⟩) ?wk ?_
   case wk=>exact Ac Zcw (HpLe.cons (OwLe.varD rfl) (HpLe.cons (OwLe.varD rfl) (HpLe.cons (OwLe.varD rfl) (HpLe.cons (OwLe.varD rfl) (HpLe.cons (OwLe.cells Zdp) (HpLe.cons OwLe.dead HpLe.nil))))))
   refine Go ?_;exact AA (Am (ResV.cell rfl rfl (Aa rfl) rfl rfl rfl) (D.le.refl _))):p:=h
theorem Zbk(h:p:=by
 rintro u _ ⟨k,C,rfl,w,rfl⟩;by_cases Q:k<L.length
 .have I:=hF _ (BC (l:=L) Q)
  by_cases G:P (L.getD k default)
  .rw [Yak G]at I
   have A:∀j,j<k+1->P (L.getD j default):=λj a=>by
    rcases YaG j k with h | h
    .exact w j h
    .obtain rfl:j=k:=by omega
     exact G
   refine Go ?_;refine Wq (Dl (ao rfl) I Zcq) ?_;refine Go ?_;refine Ah (L.length-(k+1)) ZbD ⟨k+1,by omega,rfl,A,rfl⟩ ?_;exact Ac Zcj Zcc
  .rw [Yad G]at I
   rw[Yad λh:(∀x∈L,P x)=>G (h _ (BC Q))];refine Go ?_;refine Wq (Dl (ao rfl) I Zcq) ?_;refine Go ?_;exact Yf
 .obtain rfl:k=L.length:=by omega
  rw[Yak (show∀x∈L,P x from λx E=>by
   obtain⟨j,a,e⟩:=YcI E;have:=w j a;rw[Yab,Yac a,e]at this;exact this)]
  refine Go ?_;exact Yf):p:=h
theorem Zbw(h:p:=by
 refine Fc 129 8 ZbH ZbH rfl ?_;refine AC (λu B=>∃k v,k<=g/\u=g-k/\B=⟨[(3,.ptr 0 0),(4,.ptr 1 0),(5,.ptr 2 0),(6,.ptr 3 0),(7,.d (Ba (AZ L))),(8,.d (ex (.int .i64 ((E.length:Nat):Int)))),(9,.ptr 4 0),(10,.d (ex (.int .i64 (g:Nat)))),(15,.d (ex (.int .i64 (k:Nat))))],[.var 58 ((He T o N L V).map .d),.var 26 (([ex (.int .i64 O),Ba E,F]:List D).map .d),.var 34 (([ex (.int .i64 I),X,ex (.int .i64 n),ex (.int .i64 d),ex (.int .i64 r),W,Ba K,R,M]:List D).map .d),.var 46 ((EJ 0 Ao Ao Ao Ao Ao Ao Ao Ao Ao Ao).map .d),.var 46 ((ctR (Ba (pQ (AZ L) 0 g)) (Ep (CS g)) (Fv (Gz (AZ L) E.length g)) (Fv (Gz (AZ L) g E.length)) (Fv (Gz (AZ L) g (g*(g-1)/2))) (ex (.int .i64 (AR V 5))) (Qp (KC V 3)) (Qp (KC V 2)) (ex v)).map .d),.obj (Ma v 129 8 (VX V k))]⟩) ?le ⟨0,.slice none 0 0,by omega,rfl,rfl⟩ ?round
 case le=>exact Ac Zct Zer
 case round=>
  rintro u _ ⟨k,v,C,rfl,rfl⟩;by_cases Q:k<g
  .have b:=Lp o V e J k ZbD
   refine Go ?_;refine FJ 5 (.obj (Ma v 129 8 (VX V k))) (.row 129 8 (VX V k++[Jf (Ee V k 0)])) 8 10 [9,8,7,6,5,4,3,2,1,0] [] [.ptr 4 24,.d (ex v),.ptr 0 2,.d (Ol o V),.d (ex (.int .i64 (k:Nat))),.d (AP (Dv (Ee V k))),.d (AP (Jf (Ee V k 0))),.d (slD 129 8 [Jf (Ee V k 0)]),.own 5,.ptr 4 24] [[],[(167,0)],[],[(169,2)],[],[(170,3),(171,4)],[(172,5)],[(173,6)],[(168,1),(174,7)],[]] [(3,.ptr 0 0),(4,.ptr 1 0),(5,.ptr 2 0),(6,.ptr 3 0),(7,.d (Ba (AZ L))),(8,.d (ex (.int .i64 ((E.length:Nat):Int)))),(9,.ptr 4 0),(10,.d (ex (.int .i64 (g:Nat)))),(15,.d (ex (.int .i64 (k:Nat))))] [(175,.own 5),(176,.ptr 4 24),(3,.ptr 0 0),(4,.ptr 1 0),(5,.ptr 2 0),(6,.ptr 3 0),(7,.d (Ba (AZ L))),(8,.d (ex (.int .i64 ((E.length:Nat):Int)))),(9,.ptr 4 0),(10,.d (ex (.int .i64 (g:Nat)))),(15,.d (ex (.int .i64 (k:Nat))))] ZbI rfl ⟨rfl,rfl,rfl,rfl,rfl,rfl,rfl,rfl,rfl,trivial⟩ rfl rfl ZbI ZbI ZbI (by refine DSteps.q rfl ZbB ?_;refine DSteps.q rfl ZbB ?_;refine DSteps.q rfl ZbB ?_;refine DSteps.q rfl ZbB ?_;refine DSteps.q rfl ZbB ?_;refine DSteps.q rfl (λ_=>BP (ah rfl) b (ArgsLe.cons rfl (D.le.refl _) (ArgsLe.cons rfl (D.le.refl _) ArgsLe.nil))) ?_;refine DSteps.q rfl (λ_=>Ho (k:=0) (ah rfl) (ah rfl) (Aa rfl) (Aa rfl) rfl ZbH ⟨YbA rfl,rfl⟩) ?_;refine DSteps.q rfl (λ_=>Cb (ah rfl) (Aa rfl) (Aa rfl) rfl rfl rfl rfl rfl) ?_;refine DSteps.k rfl (DTurn.rows rfl rfl rfl (Aa rfl) (Aa rfl) rfl rfl rfl rfl Zip Zip) ?_;refine DSteps.q rfl ZbB ?_;exact DSteps.nil) ZbI ZbI ⟨rfl,rfl,rfl,rfl,rfl,rfl,rfl,rfl,rfl,rfl,rfl,trivial⟩ [.var 58 ((He T o N L V).map .d),.var 26 (([ex (.int .i64 O),Ba E,F]:List D).map .d),.var 34 (([ex (.int .i64 I),X,ex (.int .i64 n),ex (.int .i64 d),ex (.int .i64 r),W,Ba K,R,M]:List D).map .d),.var 46 ((EJ 0 Ao Ao Ao Ao Ao Ao Ao Ao Ao Ao).map .d),.var 46 ((ctR (Ba (pQ (AZ L) 0 g)) (Ep (CS g)) (Fv (Gz (AZ L) E.length g)) (Fv (Gz (AZ L) g E.length)) (Fv (Gz (AZ L) g (g*(g-1)/2))) (ex (.int .i64 (AR V 5))) (Qp (KC V 3)) (Qp (KC V 2)) (ex v)).map .d),.row 129 8 (VX V k++[Jf (Ee V k 0)])] rfl ?_;refine En (ao rfl) (ao rfl) rfl (Aa rfl) (One.own rfl) rfl rfl ?_;refine AWl.nil<|Bh<|Yn ?_;(refine FU 5 129 8 (VX V (k+1)) (by rw[YL];rfl) λY=>?_);refine AWp.region<|Wm ?_;refine Wq CJ ?_;refine Wa<|AWl.nil ?_
   skip
   refine Ah (g-(k+1)) ZbD ⟨k+1,Y,by omega,rfl,rfl⟩ ?_;exact Ac Zct Zdl
  .obtain rfl:k=g:=by omega
   refine DT (σ':=⟨[(3,.ptr 0 0),(4,.ptr 1 0),(5,.ptr 2 0),(6,.ptr 3 0),(7,.d (Ba (AZ L))),(8,.d (ex (.int .i64 ((E.length:Nat):Int)))),(9,.ptr 4 0),(10,.d (ex (.int .i64 (k:Nat)))),(15,.d (ex (.int .i64 (k:Nat))))],[.var 58 ((He T o N L V).map .d),.var 26 (([ex (.int .i64 O),Ba E,F]:List D).map .d),.var 34 (([ex (.int .i64 I),X,ex (.int .i64 n),ex (.int .i64 d),ex (.int .i64 r),W,Ba K,R,M]:List D).map .d),.var 46 ((EJ 0 Ao Ao Ao Ao Ao Ao Ao Ao Ao Ao).map .d),.var 46 ((ctR (Ba (pQ (AZ L) 0 k)) (Ep (CS k)) (Fv (Gz (AZ L) E.length k)) (Fv (Gz (AZ L) k E.length)) (Fv (Gz (AZ L) k (k*(k-1)/2))) (ex (.int .i64 (AR V 5))) (Qp (KC V 3)) (Qp (KC V 2)) (slD 129 8 (VX V k))).map .d),.dead]⟩) ?wk ?_
   case wk=>exact Ac Zcw (HpLe.cons (OwLe.varD rfl) (HpLe.cons (OwLe.varD rfl) (HpLe.cons (OwLe.varD rfl) (HpLe.cons (OwLe.varD rfl) (HpLe.cons (OwLe.cells Zdp) (HpLe.cons OwLe.dead HpLe.nil))))))
   refine Go ?_;exact AA (Am (ResV.cell rfl rfl (Aa rfl) rfl rfl rfl) (D.le.refl _))):p:=h
theorem Zbe(h:p:=by
 rw [Yai F]at M
 refine Wa<|Y0<|Ai<|Y1<|Wm<|Wm ?_;refine Wq (BZ (ao rfl)) ?_;refine Wq AB ?_;refine Wq Cm ?_;refine Wq (Dz (ao rfl) (Aa rfl)) ?_;refine Wq (AO (r:=((c.length:Nat):Int)) (ao rfl) (Aa rfl) (Aa rfl) (ET ZbD)) ?_;refine Wq Bb ?_;refine Y0<|Ct<|AWp.region ?_;refine Wq (EK (ao rfl) (Aa rfl)) ?_
 refine Dr (ao rfl) ?_;exact(by repeat (first | exact AM (M) | apply AF | apply PanQ.block | apply PanQ.loop):PanQ _ _) _):p:=h
theorem Zaj(h:p:=by
 obtain⟨A,B⟩:=h
 refine⟨?_,usteps_steps f xq (i:=i+1) (λk=>by
  have:=u (k+1);rw[show i+1+k=i+(k+1)by omega,<-this];rfl) (λk=>by
  have:=z (k+1);rw[show i+1+k=i+(k+1)by omega,<-this];rfl) (by simpa using M) B⟩
 intro g w W V C xn xl K Y;have q:L0[i]? = some o:=by have:=u 0;simpa using this.symm
 have E:sh[i]? = some ⟨e,b,[i]⟩:=by have:=z 0;simpa[Gg]using this.symm
 have xm:∀j,j∈b->∀G,Fs[j]? = some G->G (g j) w:=λj R G hG=>by
  have xb:∃y,sh[j]? = some y:=by
   cases O:sh[j]? with
   |some y=>exact⟨y,rfl⟩
   |none=>
    exfalso;have I:=R;have H:=(CO f q).2.1 _ E;simp only[Fm,Yam]at H;have N:=Yaj.1 H.1.1.1.1.1 j I;obtain⟨e',xa,xc⟩:=Yci.1 N;have Q:=(CO f q).1 e' xa;simp only[Ybg,YcD]at xc;have xd:=EO E;rw[Ycm]at O;rcases xc with rfl | xc
    .omega
    .
     have key:∀(n:Nat) (y:Shape) (oy:Oper),sh[n]? = some y->L0[n]? = some oy->∀m∈y.bef,m<n:=by
      intro n
      induction n using Nat.strongRecOn with
      |_ n U=>
       intro y oy O xp m Z;have xo:=(CO f xp).2.1 y O;simp only[Fm,Yam]at xo;have S:=Yaj.1 xo.1.1.1.1.1 m Z;obtain⟨s,xc,xh⟩:=Yci.1 S;have xf:=(CO f xp).1 s xc;simp only[Ybg,YcD]at xh;rcases xh with rfl | xh
       .exact xf
       .cases xg:sh[s]? with
        |none=>simp[Du,xg]at xh
        |some y2=>
         have xi:s<L0.length:=Yaq (EO xg) (DG f);have:=U s xf y2 _ xg (Yac xi) m (by simpa[Du,xg]using xh);omega
     have:=key i _ o E q j R;omega
  obtain⟨y,O⟩:=xb;have:=C _ E j R y (unF G) O (by rw[Yax,hG];rfl);rw[xq j y O]at this;exact this
 have xt:OpsKnown Fs W w e:=by
  have xk:∀p∈e,p.2∈b:=λp J=>(HG f E q J).1;have xr:UF W g e:=xn;clear E xl A xn z M
  induction e with
  |nil=>trivial
  |cons p e U=>
   obtain⟨t,j⟩:=p;obtain⟨q1,q2⟩:=xr;exact⟨λG hG=>by rw[q1];exact xm j (xk (t,j) ZbS) G hG,U (λp J=>xk p (by simp[J])) q2⟩
 have:=A w W V xt xl K Y;have xj:∀v,unF F ([i].map (upd g i v))=F v:=λv=>by funext w;simp[unF,upd]
 cases d:o.guard with
 |none=>
  rw[d]at this;refine⟨λ_=>?_,λl=>by simp[Fn,d]at l⟩;simp only[xj];exact this
 |some jb=>
  obtain⟨j,c⟩:=jb;rw[d]at this
  have xs:j∈b:=by
   have H:=(CO f q).2.1 _ E;simp only[Fm,Yam]at H;have N:=H.1.2;rw[d]at N;simp only[Yam]at N;simpa using N.1.1
  obtain⟨t1,t2⟩:=this (g j) (λG hG=>xm j xs G hG);refine⟨λl=>?_,λl=>?_⟩
  .simp only[xj]
   refine t1 ?_;simp only[Fn,d]at l;split at l
   .rename_i r xe;rw[xe];congr 1;simpa using l
   .cases l
  .simp only[xj]
   refine t2 λe'=>?_;simp[Fn,d,e']at l):p:=h
theorem ZaY(h:p:=by
 rintro u _ ⟨k,C,rfl,rfl⟩;by_cases Q:k<l.length
 .have C:=A k Q
  have M:=Df Cw Q;have j:=Db (b++Bv N++(l.take k).flatMap Cw);rw[Yaa,Yaa]at j;have E:(Cw (l.getD k 0)).length=4:=rfl;have m:(Da (Cw (l.getD k 0))).length=4:=rfl;replace M:((l.take k).flatMap Cw).length+(Cw (l.getD k 0)).length<=(l.flatMap Cw).length:=M;obtain⟨w,S⟩:∃w,w=l.getD k 0:=⟨_,rfl⟩;refine Go ?_;refine Wq (BZ (ao rfl)) ?_;refine Go ?_;refine Wq (Ex (n:=24) (r:=((l.getD k 0/16777216:Nat):Int)) (ao rfl) (ao rfl) ZbH (EY ZbH)) ?_;refine Wq (AO (r:=((l.getD k 0/16777216%256:Nat):Int)) (ao rfl) (Aa rfl) (Aa rfl) ZcB) ?_;refine Wm ?_;refine Wq (Ex (n:=16) (r:=((l.getD k 0/65536:Nat):Int)) (ao rfl) (ao rfl) ZbH (EY ZbH)) ?_;refine Wq (AO (r:=((l.getD k 0/65536%256:Nat):Int)) (ao rfl) (Aa rfl) (Aa rfl) ZcB) ?_;refine Wm ?_;refine Wq (Ex (n:=8) (r:=((l.getD k 0/256:Nat):Int)) (ao rfl) (ao rfl) ZbH (EY ZbH)) ?_;refine Wq (AO (r:=((l.getD k 0/256%256:Nat):Int)) (ao rfl) (Aa rfl) (Aa rfl) ZcB) ?_;refine Wm ?_;refine Wq (AO (r:=((l.getD k 0%256:Nat):Int)) (ao rfl) (Aa rfl) (Aa rfl) ZcB) ?_;(refine De rfl rfl ?_;(refine DF (Aa rfl) (Aa rfl) rfl rfl rfl rfl rfl ?_;(repeat ((first | refine⟨_,Aw (ao rfl),?_⟩ | refine⟨_,Po rfl,?_⟩);refine⟨_,rfl,?_⟩));refine⟨_,rfl,?_⟩));(refine Oi (r2:=Da (Cw (l.getD k 0))) (ao rfl) rfl rfl (Aa rfl) (Aa rfl) rfl rfl ZeW ZeW rfl Zcx rfl ?_);refine Wq (BZ (ao rfl)) ?_;refine Wq AB ?_;refine En (ao rfl) (ao rfl) rfl (Aa rfl) ZdE rfl rfl ?_;refine Go ?_;refine Ah (l.length-(k+1)) ZbD ⟨k+1,by omega,rfl,rfl⟩ ?_;exact Ac Zdd (by refine HpLe.cons (Ad rfl) ?_;(refine HpLe.cons (OwLe.row (NE Zfo)) ?_);exact HpLe.cons (Ak rfl)<|HpLe.nil)
 .obtain rfl:k=l.length:=by omega
  refine Go ?_
  first | refine Bt RetsA.none rfl ?_ rfl | refine AW RetsA.none rfl ?_ rfl
  exact⟨rfl,by rw[i,YaV,Yaf];rfl⟩):p:=h
theorem Zbh(h:p:=by
 rintro u _ ⟨k,C,rfl,rfl⟩;by_cases Q:k<l.length
 .have C:=A k Q
  have M:=Df Cw Q;have j:=Db (b++Bv N++(l.take k).flatMap Cw);rw[Yaa,Yaa]at j;have E:(Cw (l.getD k 0)).length=4:=rfl;have m:(Da (Cw (l.getD k 0))).length=4:=rfl;replace M:((l.take k).flatMap Cw).length+(Cw (l.getD k 0)).length<=(l.flatMap Cw).length:=M;refine Go ?_;refine Wq (Ex (n:=24) (r:=((l.getD k 0/16777216:Nat):Int)) (ao rfl) (ao rfl) ZbH (EY ZbH)) ?_;refine Wq (AO (r:=((l.getD k 0/16777216%256:Nat):Int)) (ao rfl) (Aa rfl) (Aa rfl) ZcB) ?_;refine Wm ?_;refine Wq (Ex (n:=16) (r:=((l.getD k 0/65536:Nat):Int)) (ao rfl) (ao rfl) ZbH (EY ZbH)) ?_;refine Wq (AO (r:=((l.getD k 0/65536%256:Nat):Int)) (ao rfl) (Aa rfl) (Aa rfl) ZcB) ?_;refine Wm ?_;refine Wq (Ex (n:=8) (r:=((l.getD k 0/256:Nat):Int)) (ao rfl) (ao rfl) ZbH (EY ZbH)) ?_;refine Wq (AO (r:=((l.getD k 0/256%256:Nat):Int)) (ao rfl) (Aa rfl) (Aa rfl) ZcB) ?_;refine Wm ?_;refine Wq (AO (r:=((l.getD k 0%256:Nat):Int)) (ao rfl) (Aa rfl) (Aa rfl) ZcB) ?_;(refine De rfl rfl ?_;(refine DF (Aa rfl) (Aa rfl) rfl rfl rfl rfl rfl ?_;(repeat ((first | refine⟨_,Aw (ao rfl),?_⟩ | refine⟨_,Po rfl,?_⟩);refine⟨_,rfl,?_⟩));refine⟨_,rfl,?_⟩));(refine EA (r2:=Da (Cw (l.getD k 0))) (ao rfl) rfl rfl (Aa rfl) (Aa rfl) rfl rfl ZeW ZeW rfl ZbJ rfl ?_);refine Go ?_;refine Ah (l.length-(k+1)) ZbD ⟨k+1,by omega,rfl,rfl⟩ ?_;exact Ac ZbZ (by(refine HpLe.cons (OwLe.row (NE Zfo)) ?_);exact HpLe.cons (Ak rfl)<|HpLe.cons (Ad rfl)<|HpLe.nil)
 .obtain rfl:k=l.length:=by omega
  refine Go ?_
  first | refine Bt (RetsA.one rfl) rfl ?_ rfl | refine AW (RetsA.one rfl) rfl ?_ rfl
  exact⟨rfl,by rw[i,YaV,Yaf];rfl⟩):p:=h
theorem Zba(h:p:=by
 obtain rfl:k=L.length:=by omega
 refine Go ?_
 first | refine Bt RetsA.none rfl ?_ rfl | refine AW RetsA.none rfl ?_ rfl
 exact⟨rfl,by rw[YaV,Br,<-Yaf];rfl⟩):p:=h
theorem Zbd(h:p:=by
 obtain rfl:k=n:=by omega
 rw[Ydo]at X;refine Go ?_;refine FinP.ret (RetsA.d (Am (ResV.tmp rfl rfl) (D.le.refl _))) rfl ?_ rfl;exact⟨h,a,by rw[M,X];simp[Co,Cq],G,rfl,rfl⟩):p:=h
theorem Zbo(h:p:=by
 by_cases X:kind=6
 .subst X
  refine Go ?_;refine Dy 5 ?_;refine DO ?_;refine Go ?_;exact AA (Rets.of2 (ResV.tmp rfl rfl) (ResV.tmp rfl rfl) (Cn (Ae Zdx) (Ae Zdy)))
 by_cases E:kind=7
 .subst E
  refine Go ?_;refine Dy 7 ?_;refine DO ?_;refine Go ?_;exact AA (Rets.of2 (ResV.tmp rfl rfl) (ResV.tmp rfl rfl) (Cn (Ae Zdx) (Ae Zdy)))
 by_cases W:kind=8
 .subst W
  refine Go ?_;refine Dy 7 ?_;refine DO ?_;refine Go ?_;exact AA (Rets.of2 (ResV.tmp rfl rfl) (ResV.tmp rfl rfl) (Cn (Ae Zdx) (Ae Zdy)))
 by_cases I:kind=9
 .subst I
  refine Go ?_;exact AA (Rets.of2 (ResV.tmp rfl rfl) (ResV.tmp rfl rfl) (Cn (Ae Zdx) (Ae Zdy)))
 by_cases G:kind=13
 .subst G
  refine Go ?_;exact AA (Rets.of2 (ResV.tmp rfl rfl) (ResV.tmp rfl rfl) (Cn (Ae Zdx) (Ae Zdy)))
 by_cases V:kind=12
 .subst V
  refine Go ?_;refine Dy 3 ?_;refine DO ?_;refine Go ?_;exact AA (Rets.of2 (ResV.tmp rfl rfl) (ResV.tmp rfl rfl) (Cn (Ae Zdx) (Ae Zdy)))
 refine Go ?_;exact AA (Rets.of2 (ResV.tmp rfl rfl) (ResV.tmp rfl rfl) (Cn (Ae Zdx) (Ae Zdy)))):p:=h
theorem Zad(h:p:=by
 have xC:sh.length=L.length:=by
  have:=DG z;rcases YaG sh.length L.length with Q | hge
  .have A:=xe sh.length Q
   rw[xa.tail _ (Yah _)]at A;cases A
  .omega
 have:=xt g N xa.ext λj y F O hF=>xa.facts j y F O hF (xe j (by have:=EO O;omega));rw[xC]at this
 have xG:FA g (L.take L.length) 0 a=a':=by
  obtain⟨p1,p2,p3,p4⟩:=Hk (g:=g) (L.take L.length) 0 a (λj k o w d R C Z s=>by
   simp at R C;exact Gw z ZeQ (by have:=(Yae.1 C).1;omega) R C Z s) (λo m d xj=>by
   rw[<-xC]at m;have B:=Yaj.1 W o m;simp only[xj,Ybb]at B;exact B)
  refine NH (Ydy λt=>?_) (p2.trans xa.adef.symm);by_cases M:∃(j:Nat) (o:Oper),L[j]? = some o/\o.dst=some t
  .obtain ⟨j,o,R,xj⟩:=M
   rw[p3 j o t Zeu xj,xa.a1 j o t ZeQ R (xe j (Yae.1 R).1) xj];simp
  .rw [p4 t λj o R e=>M ⟨j,o,by simpa using R,e⟩,xa.a2 t λj o _ R _ e=>M ⟨j,o,R,e⟩]
 rw[xG]at this;exact this):p:=h
theorem Zam(h:p:=by
 obtain⟨k,C,rfl,K⟩:=hrel;by_cases V:k=0
 .subst V
  go_wp2;go_ret;refine⟨_,rfl,?_,Ext.refl _⟩;have B:=H.out.take (k:=0) (Yaw _);rw[K.out];exact B
 .have Q:0<k:=by omega
  obtain⟨b,o,rfl,F,O⟩:=R.out Zfj;have O:=O (k-1) Zfj;have X:((k:Int)-1).toNat=k-1:=by omega
  by_cases G:l.getD (k-1) 0=0
  .rw [G]at O
   have G:=Af G;go_wp2;go_round
   case rel => exact ⟨k - 1, by omega, by go_num, by
    have B:k-1<l.length:=by rw[<-j.out];omega
    have L:l[k-1]=0:=by have:=G.out;simpa[B]using this
    have S:=QS B L;rw[show k-1+1=k by omega]at S;exact K.out.trans S⟩
   case measure=>simp[intOf];omega
  .have Z:((l.getD (k-1) 0:Nat):Int)≠0:=by omega
   generalize E:l.getD (k-1) 0=x at *;have E:=Af E;have a:((x:Int)==0)=false:=by simpa using G
   go_wp2;go_ret;refine⟨_,rfl,?_,Ext.refl _⟩;have B:=H.out.take (k:=k) Zfj;have W:k-1<l.length:=by rw[<-j.out];omega
   have L:l[k-1]≠0:=by have:=E.out;simp[W]at this;omega
   have S:=Mr W L;rw[show k-1+1=k by omega]at S;rw[K.out,S];exact B):p:=h
theorem Zae(h:p:=by
 have key:∀(l:List Bool) (n:Nat),n<=l.length->(∀j,j<n->l[j]? = some true)->(∀j,n<=j->j<l.length->l[j]? = some false)->(l.filter (!·)).length+n=l.length:=by
  intro l
  induction l with
  |nil=>intro n X _ _;simp at X;simp[X]
  |cons b l xK=>
   intro n X A B
   cases n with
   |zero=>
    have I:=B 0 (Yah _) ZbS;simp at I;subst I;have:=xK 0 ZbD (λj R=>by omega) (λj _ R=>by simpa using B (j+1) ZbD Zeu);simp at this ⊢;omega
   |succ n=>
    have I:=A 0 ZbD;simp at I;subst I;have:=xK n (by simpa using X) (λj R=>by simpa using A (j+1) ZbD) (λj xF xz=>by simpa using B (j+1) ZbD (by simpa using xz));simp;omega
 have := key U.toList sh.length (by simpa [xa.size] using DG z) (fun j R => by
   have A:=xk j R;have xl:j<U.size:=by rw[xa.size];have:=DG z;omega
   simp[xl]at A;simp[xl,A]) (λj xF xz=>by
   have A:=xa.tail j xF;have xl:j<U.size:=by simpa using xz
   simp[xl]at A;simp[xl,A])
 have Z:(U.toList.filter (!·)).length=f+1:=r;rw[Z]at this;simpa[xa.size]using this):p:=h
theorem Zak(h:p:=by
 simp only[Yam,YcD]at q
 have Y:∀(m:List (List (Nat×Nat))) (R:List (List Nat)) (i:Nat),m.length=R.length->(Gg i m R).length=m.length:=by
  intro m
  induction m with
  |nil=>intro R i _;cases R<;>rfl
  |cons e m u=>
   intro R i h
   cases R with
   |nil=>simp at h
   |cons b R=>simp[Gg,u R (i+1) Zdi]
 have J:=Y m R 0 q.1;refine wp_region_ext C (Gg 0 m R) (y.map unF) I (by rw[J];exact B) ?_ ?_ ?_
 .intro F hF K M Q A h
  obtain⟨G,S,rfl⟩:=YaA.1 hF;unfold unF at *;split at h
  .rename_i v;exact o G S v M Q A h
  .exact h.elim
 .exact usteps_steps I (λk x E=>by have:=(KJ E).1;rwa [YaH]at this) (λk=>by rw[YaH]) (λk=>by rw[YaH]) q.1 l
 .intro g N V t
  rw[J];refine r g N V λj F hF=>?_
  have W:j<(Gg 0 m R).length:=by
   rw[J];have:=(Yae.1 hF).1;omega
  have O:(Gg 0 m R)[j]? = some (Gg 0 m R)[j]:=Yac W;have:=t j _ (unF F) O (by rw[Yax,hF];rfl);rw[(KJ O).1]at this;simpa[unF]using this):p:=h
theorem Zbf(h:p:=by
 have I:=V T a F
 refine Go ?_;refine Bc [0] [] [] (I) (BX rfl) (λR=>(by repeat (first | exact AM (Rd.none (DW Q X R)) | apply AF | apply PanQ.block | apply PanQ.loop):PanQ _ _) _) rfl rfl ZbC ZbA ZbH Zby ZbE trivial rfl ?_;rintro _ _ ⟨x,H,L,z,rfl,rfl⟩;refine Kr ?_;refine Wq SD ?_;refine Mj (ao rfl) (ao rfl) rfl (Aa rfl) rfl (Hm (λ_=>rfl) rfl Q) rfl ?_;refine Go ?_;refine Ah (8-(k+1)) ZbD ⟨k+1,h++[x],H,by omega,rfl,by simp[B],z,DV Q X L,rfl⟩ ?_;exact Ac ZcT (by exact HpLe.cons (Ad rfl)<|HpLe.cons (Ak rfl)<|HpLe.cons (OwLe.varD (XC B))<|HpLe.nil)):p:=h
theorem Zbj(h:p:=by
 refine Cv [0] (I) rfl ZbF rfl ZbC ZbA ZbH Zby rfl ?_;rintro _ _ ⟨rfl,rfl⟩;refine Kr ?_;refine Wa<|AWl.nil<|Bh<|Yn<|AWp.region<|Wm ?_;refine Wq CJ ?_;refine Wa<|AWl.nil ?_
 refine Ah (8-(k+1)) ZbD ⟨k+1,by omega,rfl,rfl⟩ ?_;exact Ac ZbZ ZdR):p:=h
theorem ZaX(h:p:=by
 refine AU [0,1] [] [] (I) Zbz rfl rfl ZbC ZbA ZbH Zby ZbE trivial rfl ?_;rintro _ _ ⟨rfl,rfl⟩;refine Kr ?_;apply AWl.nil
 first | refine Bt RetsA.none rfl ?_ rfl | refine AW RetsA.none rfl ?_ rfl
 exact⟨rfl,rfl⟩):p:=h
theorem Zaf(h:p:=by
 have xh:∀j o,(L.take sh.length)[j]? = some o->j<sh.length/\L[j]? = some o:=λj o h=>by
  rw[YaJ]at h;split at h
  .exact ⟨by assumption,h⟩
  .cases h
 obtain⟨p1,p2,p3,p4⟩:=Hk (g:=g) (L.take sh.length) 0 a (λj k o w d R C Z s=>by
  obtain⟨xF,xz⟩:=xh j o R;obtain⟨xE,xB⟩:=xh k w C;exact Gw z xF xE xz xB Z s) (λo m d xj=>by
  have B:=Yaj.1 W o m;simp only[xj,Ybb]at B;exact B)
 refine NH (Ydy λt=>?_) (p2.trans xa.adef.symm);by_cases M:∃(j:Nat) (o:Oper),j<sh.length/\L[j]? = some o/\o.dst=some t
 .obtain ⟨j,o,xD,R,xj⟩:=M
  rw[p3 j o t (by rw[YaJ,Yan xD];exact R) xj,xa.a1 j o t xD R (xk j xD) xj];simp
 .rw [p4 t λj o R e=>M ⟨j,o,(xh j o R).1,(xh j o R).2,e⟩,xa.a2 t λj o xD R _ e=>M ⟨j,o,xD,R,e⟩]):p:=h
theorem Zbc(h:p:=by
 refine Cv [0] (I) rfl ZbF rfl ZbC ZbA ZbH Zby rfl ?_;rintro _ _ ⟨rfl,rfl⟩;refine Kr ?_;refine Go ?_
 first | refine Bt (RetsA.one rfl) rfl ?_ rfl | refine AW (RetsA.one rfl) rfl ?_ rfl
 exact⟨rfl,rfl⟩):p:=h
theorem Zbr(h:p:=by
 refine Go ?_
 refine CutS.normal () (by revert q;simp[Xa,eq3,A,B]) ?_;exact Ac Zdb ZcV):p:=h
theorem Zau(h:p:=by
 have b:=Bd u.out k;have h:=Bd H.out k;have T:wr.cell? ⟨w.heap.size,k,none⟩=some (.int .u32 (r.getD k 0:Nat)):=by rw[K.out.2.2.1.cell,Ea Zfk]
 have g:=K.out.2.2.1.frozen k;generalize E:M.getD k 0=x at *;generalize O:R.getD k 0=y at *;replace E:=Af E;replace O:=Af O;unfold BB at b h;go_wp2_with fail;refine(Ij _ M k x _ (Ha.out.ext K.out.2.2.2.2) E.out).mono ?_;rintro e j ⟨rfl,rfl⟩;go_wp2_with fail;refine(Ij _ R k y _ (Hb.out.ext K.out.2.2.2.2) O.out).mono ?_;rintro e j ⟨rfl,rfl⟩;go_wp2;exact⟨K.out.step Q E.out O.out b h t ZcU ZcU,by simp[intOf];omega⟩):p:=h
theorem Zbq(h:p:=by
 refine Go ?_
 refine CutS.ret ?_;exact AA (Am (ResV.tmp rfl rfl) (Ae (congrArg (λz=>ex (.bool z)) (by revert q;simp[Xa,eq3,A,B]<;>(intro q;exact .inl q)))))):p:=h
theorem ZaS(h:p:=by
 refine⟨T.le,T.ok,λA o K=>?_,λA j o V y K G b xd xh=>?_,λA o b K xd=>?_,λA K xi=>?_,?_⟩
 .rw [Yct]
  rcases X A o K with rfl | L
  .trivial
  .exact T.hp A o L
 .rcases X A o K with rfl | L
  .exact xd.elim
  .rcases X j V G with rfl | S
   .exact xh.elim
   .exact T.sep A j o V y L S b xd xh
 .rcases X A o K with rfl | L
  .exact xd.elim
  .exact T.own A o b L xd
 .have L:=T.hp _ _ xj _ (Ry (i:=0) (k:=A) (by rw [xb]; exact K) (by rw [YaH]; exact xi))
  rw[IR A K,YaH]at L;exact L.2.symm
 .rw [Yct]
  exact YbT (Cy xj)):p:=h
theorem ZaC(h:p:=by
 obtain⟨B,C,L,S,F,G⟩:=h;refine⟨⟨by simpa using B,Do C k (YaT _ CQ),by rw[b];exact L.set ZbD _,S.set _ _,?_,λi K=>?_⟩,?_⟩
 .rw [Bg, Dt, Cp ZbD, Bg t, Bg v, O, <-G k (Yah _), o]
  have e:=YcF (z+y+Q) BB
  have s:BB^k*((z+y+Q)%BB)+BB^(k+1)*((z+y+Q)/BB)=BB^k*(z+y+Q):=by
   rw[Ybq,YaY,<-YaD,e]
  rw[YaD,YaD]at s;omega
 .rw [<-G i ZbD]
  have:k≠i:=by omega
  simp[YcM this]
 .have:=Ybw (show z+y+Q<BB*2 by omega)
  omega):p:=h
theorem ZaO(h:p:=by
 obtain ⟨_,C⟩:=Kg M
 rw[Nat.sub_zero]at C;have L:t<i.length:=(Yae.1 C).1;have S:=O t c C
 have:(d.toArray++Array.replicate (vP.ntmps-d.toArray.size) undef).getD t undef=d.getD t undef:=by
  rw[Yay,Ydf Zip];simp
 show AVr (H++[Ow.pin _]).length W s c ((d.toArray++Array.replicate (vP.ntmps-d.toArray.size) undef).getD t undef);rw[this,q];exact S.mono (Yec _) λ_ _=>rfl):p:=h
theorem Zas(h:p:=by
 go_wp2;refine bodyPost_ret (v:=.agg #[.bool false,.slice A 0 c]) ZdV rfl ⟨_,_,_,_,rfl,⟨?_,?_⟩,?_⟩
 .rw [L.out,JE];rfl
 .rw [L.out,JE]
  show Words _ _ (As 0);rw[BL];have M:=(Ty.new w #[Value.bool false,Value.slice none 0 0] 109).ext V;exact(K.out.set M ZbH _).set (M.set _ _) ZbH _
 .exact ((((Ext.refl _).alloc _).trans V).set (Yah _) _).set (Yah _) _):p:=h
theorem Zaw(h:p:=by
 refine⟨by simp,λk C=>?_⟩;simp at C;have Q:k%u.cells.size<u.cells.size:=YaT _ ZbD
 refine ⟨u.cells[k % u.cells.size]!, by simp [C], Yaj.1 A _ (by
  have U:u.cells[k%u.cells.size]! = u.cells[k%u.cells.size]'Q:=by simp[Q]
  rw[U];simp),?_⟩
 have:DK (List.replicate (len*g) CD) k=CD:=by simp[DK,C]
 rw[this];trivial):p:=h
theorem ZaU(h:p:=by
 have G:P.drop k=[]:=YaL ZbD
 by_cases H:k<Q.length
 .have e:CW P Q=-1:=by
   rw[heq,G,GP H,CW]
  refine Go ?_;exact AA (Am (ResV.tmp rfl rfl) (Ae ZeT))
 .have e:CW P Q=0:=by
   rw[heq,G,(YaL ZbD:Q.drop k=[]),CW]
  refine Go ?_;exact AA (Am (ResV.tmp rfl rfl) (Ae ZeT))):p:=h
theorem Zbn(h:p:=by
 subst V
 refine Go ?_;refine Dy 3 ?_;refine DO ?_;refine Go ?_;exact AA (Rets.of2 (ResV.tmp rfl rfl) (ResV.tmp rfl rfl) (Cn (Ae Zdx) (Ae Zdy)))):p:=h
theorem Zbm(h:p:=by
 subst X
 refine Go ?_;refine Dy 5 ?_;refine DO ?_;refine Go ?_;exact AA (Rets.of2 (ResV.tmp rfl rfl) (ResV.tmp rfl rfl) (Cn (Ae Zdx) (Ae Zdy)))):p:=h
theorem ZaM(h:p:=by
 refine Go ?_
 exact AA (Am (ResV.cell rfl rfl (Aa rfl) rfl rfl rfl) (D.le.refl _))):p:=h
theorem Zab(h:p:=by
 obtain⟨A,B⟩:=h;obtain⟨J,s⟩:=StepsAt.at B;refine⟨by simp[J],λk w N q E=>?_⟩
 cases k with
 |zero=>
  simp at q E;subst q;subst E;exact⟨F,rfl,A⟩
 |succ k=>
  simp at q E;obtain⟨K,hF,Y⟩:=s k w N q E;refine⟨K,by simpa using hF,?_⟩;have:i+(k+1)=i+1+k:=by omega
  rw[this];exact Y):p:=h
theorem ZaH(h:p:=by
 have M:Ty r (w.heap.size+2) 109:=((Fu _ _ ZbS).alloc _).ext i.out
 have v:Ty r (w.heap.size+3) 109:=(Fu _ _ ZbS).ext i.out;exact(((U.out.set M ZbH _).set (M.set _ _) ZbH _).set ((v.set _ _).set _ _) ZbH _).set (((v.set _ _).set _ _).set _ _) ZbH _):p:=h
theorem ZaG(h:p:=by
 have M:Ty r (w.heap.size+2) 109:=((Fu _ _ ZbS).alloc _).ext i.out
 have v:Ty r (w.heap.size+3) 109:=(Fu _ _ ZbS).ext i.out;exact(((s.out.set M ZbH _).set (M.set _ _) ZbH _).set ((v.set _ _).set _ _) ZbH _).set (((v.set _ _).set _ _).set _ _) ZbH _):p:=h
theorem Zbt(h:p:=by
 have r:O=GH true O p:=by rw [GH, Yan (.inr (.inl ⟨rfl, c⟩))]
 refine Go ?_;refine Ah (L.length-(k+1)) ZbD ⟨k+1,by omega,rfl,rfl⟩ ?_;exact Ac Zcy Zcc):p:=h
theorem Zbs(h:p:=by
 have r:O=GH plain O p:=by rw [GH, Yan (.inl S)]
 refine Go ?_;refine Ah (L.length-(k+1)) ZbD ⟨k+1,by omega,rfl,rfl⟩ ?_;exact Ac Zcy Zcc):p:=h
theorem ZaZ(h:p:=by
 obtain rfl:k=8:=by omega
 refine Go ?_
 first | refine Bt RetsA.none rfl ?_ rfl | refine AW RetsA.none rfl ?_ rfl
 exact⟨rfl,rfl⟩):p:=h
theorem Zai(h:p:=by
 rcases YaG j L.length with h | h
 .simp [h]
 .simp [h]):p:=h
theorem Zbi(h:p:=by
 first | refine Bt (RetsA.one rfl) rfl ?_ rfl | refine AW (RetsA.one rfl) rfl ?_ rfl
 exact⟨rfl,by rw[P];rfl⟩):p:=h
theorem Zbu(h:p:=by
 rintro u _ ⟨rfl,rfl⟩;by_cases c:g=0
 .refine Go ?_
  exact AA (Am (ResV.cell rfl rfl (Aa rfl) rfl rfl rfl) (D.le.refl _))
 .refine Go ?_
  exact AA (Am (ResV.cell rfl rfl (Aa rfl) rfl rfl rfl) (D.le.refl _))):p:=h
theorem ZaL(h:p:=by
 obtain rfl:k=P.length:=by omega
 refine Go ?_;exact AA (Am (ResV.tmp rfl rfl) (Ae (by rw[YaV])))):p:=h
theorem Zaz(h:p:=by
 exact ⟨n, 0, List.replicate n 0, Yah _, rfl, rfl, H, by simp, Cu _, Blk.new _ _ _, by
 have B:J.drop n=[]:=YaL ZdZ;rw[B];simp[val],(Ext.refl _).alloc _⟩):p:=h
theorem Zap(h:p:=by
 have M:=(Ty.new w #[Value.bool false,Value.slice none 0 0] 109).ext P.out
 have i:=i.out;rw[AJ,show Ka true (-n).toNat=n by simp[Ka];omega]at i;exact(i.set M ZbH _).set (M.set _ _) ZbH _):p:=h
theorem Zaq(h:p:=by
 have M:=(Ty.new w #[Value.bool false,Value.slice none 0 0] 109).ext P.out
 have i:=i.out;rw[AJ,show Ka false n.toNat=n by simp[Ka];omega]at i;exact(i.set M ZbH _).set (M.set _ _) ZbH _):p:=h
theorem ZaA(h:p:=by
 have B:=G.out.2.2.2.1;simp only[YaU]at B;rw[B];constructor
 .rw [YaM,YcN H,YbI X,Ybd]
 .rw [YaM,Ydt,YaS X]):p:=h
theorem ZaW(h:p:=by
 subst A;refine⟨rfl,λi o K=>?_,rfl,B⟩;have B:z.take (wH b).length=wH (b++e):=B;rw[B]at K
 match i,K with
 |0,K=>cases K;intro I C;rw[YaC.1 C];rfl
 |1,K=>cases K;trivial):p:=h
theorem ZaN(h:p:=by
 rw[YaQ]at K;split at K
 .exact .inl K
 .rename_i xc
  have:A-H.length=0:=by
   have:=Cy K;simp at this;omega
  rw[this]at K;exact .inr (Yag K).symm):p:=h
theorem Zbl(h:p:=by
 rcases YaG j k with b | b
 .exact w j b
 .obtain rfl:j=k:=by omega
  exact h):p:=h
theorem Zan(h:p:=by
 exact⟨n,Yah _,rfl,Ext.refl _,λi K=>by
 have C:(As x).length<=i:=by rw[<-V.out];exact K
 have E:(As y).length<=i:=by rw[<-z.out];exact K
 simp[C,E]⟩):p:=h
theorem ZaK(h:p:=by
 obtain rfl:k=P.length:=by omega
 refine Go ?_;exact AA (Rets.of2 (ResV.tmp rfl rfl) (ResV.tmp rfl rfl) (Cn (Ae (by rw[YaV];rfl)) (D.le.refl _)))):p:=h
theorem ZaE(h:p:=by
 have:(U.take (k+1)).getD k 0=(c.take (k+1)).getD k 0:=by rw[X]
 simp only[Yab,YaJ]at this;simpa using this.symm):p:=h
theorem ZaV(h:p:=by
 rw [getD_set_ne false (λe=>E e.symm)]
 exact⟨.inr,λh=>h.resolve_left E⟩):p:=h
theorem ZaD(h:p:=by
 have:(U.take (k+1)).take k=(c.take (k+1)).take k:=by rw[X]
 rw[YeJ,YeJ,Ybu ZbD]at this;exact this.symm):p:=h
theorem ZaB(h:p:=by
 have:k≠i:=by omega
 simp[YcM this]):p:=h
theorem Zat(h:p:=by
 rw [MC]
 have M:=(Ty.new w #[Value.bool false,Value.slice none 0 0] 109).ext V;exact(K.out.set M ZbH _).set (M.set _ _) ZbH _):p:=h
theorem Zah(h:p:=by
 rcases YaG i sh.length with Q | hge
 .exact Q
 .have:=KG z xa.size xa.closed hge m xf j0 ZbD
  rw[xs]at this;cases this):p:=h
theorem Zar(h:p:=by
 have M:Ty N (w.heap.size+2) 109:=(Fu _ _ ZbS).drew.ext V.out
 exact(o.out.set M ZbH _).set (M.set _ _) ZbH _):p:=h
theorem ZaQ(h:p:=by
 rcases xa A o K with B | rfl
 .rcases xa j V G with C | rfl
  .exact xg A j o V y B C b xd xh
  .exact xh.elim
 .exact xd.elim):p:=h
theorem Zax(h:p:=by
 have Q:=h y (by rw [V]; simp [Op.operands])
 rw[O]at Q;exact⟨_,rfl,.inl (by show some (N y)=_;rw[show N y=_ from Q])⟩):p:=h
theorem Zbb(h:p:=by
 have V:=C y (by rw [Y]; simp [Op.operands])
 rw[O]at V;exact⟨_,rfl,.inl (by show some (S y)=_;rw[show S y=_ from V])⟩):p:=h
theorem Zav(h:p:=by
 rcases E.2 with⟨w1,_⟩ | ⟨g,cap,cur,w1,_,_,w2,_⟩
 .exact ⟨none,0,0,w1,Yah _⟩
 .exact ⟨_,_,_,w1,w2⟩):p:=h
theorem ZaR(h:p:=by
 rw[YbZ]at K;split at K
 .split at K
  .exact .inl (Yag K).symm
  .cases K
 .exact .inr K):p:=h
theorem Zao(h:p:=by
 subst r
 go_wp2;go_ret;exact⟨by rw[Ss ZdQ (λi=>S.out.2 i (Yaw _))];rfl,S.out.1⟩):p:=h
theorem Zay(h:p:=by
 obtain rfl:k=8:=by omega
 go_wp2;go_ret;exact⟨rfl,V.out⟩):p:=h
theorem ZaF(h:p:=by
 have:(List.replicate (m-(n+1)+1) 0).drop (m-(n+1)+1)=[]:=YaL ZbS
 rw[this];simp[val]):p:=h
theorem ZaP(h:p:=by
 intro p z
 obtain⟨k,B,rfl⟩:=KP z;rw[xb]at B;rw[YaH];exact⟨by omega,IR k B⟩):p:=h
theorem Zac(h:p:=by
 cases u:U.getD j false with
 |true=>rfl
 |false=>have:=Se (by rw[xa.size];exact R) u;omega):p:=h
theorem Zbp(h:p:=by
 refine Go ?_
 exact AA (Am (ResV.cell rfl rfl (Aa rfl) rfl rfl rfl) (Ae Zej))):p:=h
theorem ZaT(h:p:=by
 cases h:Nat.blt (vd+1000000) 1000000 with
 |false=>rfl
 |true=>rw[Ybm]at h;omega):p:=h
theorem Zbg(h:p:=by
 have h:(!Nat.beq i n)=true:=h;have h:Nat.beq i n=false:=by simpa using h
 simp[UK,h]):p:=h
theorem ZaI(h:p:=by
 go_enter Tryz.func218,Tryz.ntmps218
 go_wp2;go_ret;exact⟨by simp[S.out],V.out⟩):p:=h
theorem Zal(h:p:=by
 rcases YaK.1 hF with rfl | hF
 .exact h.1
 .exact StabAll.mem h.2 F hF):p:=h
theorem Zag(h:p:=by
 cases u:U.getD j false with
 |true=>rfl
 |false=>exact absurd ⟨j,R,u⟩ xm):p:=h
theorem ZaJ(h:p:=by
 go_wp2
 go_ret;exact⟨by rw[O.out];rfl,V.out.trans (L.out.trans P.out)⟩):p:=h
theorem Zbx(h:p:=by
 first | refine Bt RetsA.none rfl ?_ rfl | refine AW RetsA.none rfl ?_ rfl
 exact⟨rfl,rfl⟩):p:=h
theorem Zby(h:p:=by repeat (first | exact SelR.nil | refine SelR.var rfl ?_ | refine SelR.obj rfl ?_ | refine SelR.row rfl ?_ | refine SelR.varA rfl rfl rfl ?_)):p:=h
theorem Zbz(h:p:=by first | exact Or.inl rfl | exact Or.inr ⟨by decide,rfl,by repeat (first | exact AvoidR.nil | refine Aj rfl ?_ | refine AvoidR.dead ?_ | refine AvoidR.row ?_ | refine AvoidR.obj ?_ | refine AvoidR.varD ?_ | refine AvoidR.varA rfl ?_ | refine AvoidR.pin rfl ?_)⟩):p:=h
theorem ZbA(h:p:=by repeat (first | exact ArgsC.nil | refine ArgsC.d rfl (D.le.refl _) ?_ | refine ArgsC.av rfl rfl ?_)):p:=h
theorem ZbB{α:Sort _}{r:α->Prop}(h:∀x,r x:=by intro _;first | exact AG (ah rfl) | exact Az (ah rfl) (Aa rfl) rfl (Aa rfl) rfl rfl | exact AH | exact Ar | (apply Aq;refine AI (Aa rfl) rfl rfl rfl ?_;(repeat ((first | refine⟨_,Aw (ah rfl),?_⟩ | refine⟨_,Po rfl,?_⟩);refine⟨_,rfl,?_⟩));refine⟨_,rfl,?_⟩;rfl)):∀x,r x:=h
theorem ZbC(h:p:=by first | exact .inl ⟨rfl,rfl,rfl⟩ | exact .inr (.inr ⟨rfl,rfl,rfl⟩)):p:=h
theorem ZbD(h:p:=by omega):p:=h
theorem ZbE(h:p:=by repeat (first | exact trivial | refine⟨⟨_,_,rfl⟩,?_⟩)):p:=h
theorem ZbF(h:p:=by repeat (first | exact AvoidR.nil | refine Aj rfl ?_ | refine AvoidR.dead ?_ | refine AvoidR.row ?_ | refine AvoidR.obj ?_ | refine AvoidR.varD ?_ | refine AvoidR.varA rfl ?_ | refine AvoidR.pin rfl ?_)):p:=h
theorem ZbG(h:p:=by refine HpLe.cons (OwLe.dead) ?_;refine HpLe.cons (OwLe.dead) ?_;exact ZiT):p:=h
theorem ZbH(h:p:=by decide):p:=h
theorem ZbI(h:p:=by kernel_rfl):p:=h
theorem ZbJ(h:p:=by first | ((repeat (first | exact PlainHp.nil | refine PlainHp.var ?_ | refine PlainHp.row ?_ | refine PlainHp.dead ?_ | refine PlainHp.obj ?_ | refine PlainHp.pin rfl ?_ | refine PlainHp.varA rfl ?_));done) | fail):p:=h
theorem ZbK(h:p:=by first | exact AG (ah rfl) | exact Az (ah rfl) (Aa rfl) rfl (Aa rfl) rfl rfl | exact AH | exact Ar):p:=h
theorem ZbL(h:p:=by first | omega | (simp only[Yaa];omega)):p:=h
theorem ZbM(h:p:=by exact HpLe.cons (Ad rfl)<|Yr<|HpLe.cons (Ak rfl)<|HpLe.cons (Ad rfl)<|HpLe.nil):p:=h
theorem ZbN(h:p:=by repeat (first | exact DsLe.nil | refine DsLe.cons (D.le.refl _) ?_ | refine DsLe.cons (Ae (by first | rfl | (congr 2;omega))) ?_ | refine DsLe.cons AL ?_)):p:=h
theorem ZbO(h:p:=by first | (simp only[CR,Yav,Ybv];omega) | (simp[CR];done) | (simp[CR];omega)):p:=h
theorem ZbP(h:p:=by exact Yp<|FrLe.cons rfl (BY rfl)<|FrLe.cons rfl (AVle.own rfl)<|Yd<|Yd<|FrLe.nil):p:=h
theorem ZbQ(h:p:=by rw[YcP];simp[DR,FH,JV,EF,Mp,Lz,<-Ef,and_assoc,OS,OL,Pp,Pq];try (simp[V]);try (intros;omega)):p:=h
theorem ZbR(h:p:=by first | omega | (simp;omega)):p:=h
theorem ZbS(h:p:=by simp):p:=h
theorem ZbT(h:p:=by exact Yp<|FrLe.cons rfl (BY rfl)<|Yd<|Yd<|Yd<|FrLe.nil):p:=h
theorem ZbU(h:p:=by first | exact CU rfl | exact CX | exact One.ep):p:=h
theorem ZbV(h:p:=by first | ((repeat (first | exact ArgsLe.nil | refine ArgsLe.cons rfl (D.le.refl _) ?_ | refine ArgsLe.cons rfl AL ?_));done) | fail):p:=h
theorem ZbW(h:p:=by dsimp only;omega):p:=h
theorem ZbX(h:p:=by simp only[Yaa];omega):p:=h
theorem ZbY(h:p:=by simp only[YaR];omega):p:=h
theorem ZbZ(h:p:=by exact FrLe.cons rfl (AVle.own rfl)<|Yp<|Yd<|FrLe.nil):p:=h
theorem Zcb(h:p:=by exact Yp<|Yd<|FrLe.nil):p:=h
theorem Zcc(h:p:=by exact HpLe.nil):p:=h
theorem Zcd(h:p:=by apply Aq;refine AI (Aa rfl) rfl rfl rfl ?_;refine⟨_,rfl,?_⟩;rfl):p:=h
theorem Zce(h:p:=by exact Yp<|Yp<|FrLe.nil):p:=h
theorem Zcf(h:p:=by exact FrLe.cons rfl (AVle.own rfl)<|Yd<|Yd<|FrLe.nil):p:=h
theorem Zcg(h:p:=by exact Yp<|Yd<|Yd<|FrLe.nil):p:=h
theorem Zch(h:p:=by exact HpLe.cons (Ad rfl)<|HpLe.cons (Ak rfl)<|Yr<|HpLe.nil):p:=h
theorem Zci(h:p:=by exact Yp<|Yp<|Yd<|Yd<|Yd<|FrLe.nil):p:=h
theorem Zcj(h:p:=by exact Yd<|Yd<|Yd<|Yd<|FrLe.nil):p:=h
theorem Zck(h:p:=by refine Yd ?_;refine Yd ?_;(refine FrLe.cons rfl (AVle.le (Ae (by rw[R,<-r];unfold Ba;congr 1;simp[FG,YdU,YdT]))) ?_);exact Yd<|FrLe.nil):p:=h
theorem Zcl(h:p:=by rw[YcP];simp[Dc,Gd,and_assoc]):p:=h
theorem Zcm(h:p:=by exact HpLe.cons (Ad rfl)<|HpLe.cons (OwLe.row ZdB)<|HpLe.cons (Ak rfl)<|HpLe.nil):p:=h
theorem Zcn(h:p:=by rw[h];omega):p:=h
theorem Zco(h:p:=by exact Yp<|Yp<|Yp<|Yp<|Yd<|Yd<|Yp<|Yd<|FrLe.nil):p:=h
theorem Zcp(h:p:=by exact Yv<|Yv<|Yv<|Yv<|Yv<|HpLe.nil):p:=h
theorem Zcq(h:p:=by exact ArgsLe.cons rfl (D.le.refl _) ArgsLe.nil):p:=h
theorem Zcr(h:p:=by exact Yd<|Yd<|FrLe.cons rfl (AVle.own rfl)<|Yd<|Yd<|FrLe.nil):p:=h
theorem Zcs(h:p:=by exact HpLe.cons (Ad rfl)<|HpLe.cons (OwLe.row (by simp[DB]))<|HpLe.cons (Ak rfl)<|HpLe.nil):p:=h
theorem Zct(h:p:=by exact Yp<|Yp<|Yp<|Yp<|Yd<|Yd<|Yp<|Yd<|Yd<|FrLe.nil):p:=h
theorem Zcu(h:p:=by exact Yv<|Yv<|HpLe.nil):p:=h
theorem Zcv(h:p:=by refine HpLe.cons (OwLe.cells ZcK) ?_;exact ZiT):p:=h
theorem Zcw(h:p:=by repeat (first | exact FrLe.nil | refine Yp ?_ | refine Yd ?_)):p:=h
theorem Zcx(h:p:=by repeat (first | exact DownR.nil | (apply DownR.varA;exact rfl) | apply DownR.row | apply DownR.obj | apply DownR.dead | (apply DownR.pin;exact rfl))):p:=h
theorem Zcy(h:p:=by refine Yd ?_;refine Yd ?_;refine FrLe.cons rfl (AVle.le (Ae (by rw[R,<-r]))) ?_;exact Yd<|FrLe.nil):p:=h
theorem Zcz(h:p:=by simp[Bp];omega):p:=h
theorem ZcA(h:p:=by exact Yv<|HpLe.nil):p:=h
theorem ZcB(h:p:=by rw[IntKind.wrap_u8];omega):p:=h
theorem ZcC(h:p:=by exact FrLe.cons rfl (AVle.own rfl)<|Yd<|Yd<|Yd<|FrLe.nil):p:=h
theorem ZcD(h:p:=by assumption):p:=h
theorem ZcE(h:p:=by simp<;>omega):p:=h
theorem ZcF(h:p:=by refine CSteps.s ?_;refine EU ?_;refine EU ?_;refine EU ?_;refine EU ?_;refine EU ?_;refine EU ?_;refine On (g0) ?_;refine EU ?_;refine EU ?_;refine EU ?_;refine EU ?_;refine EU ?_;refine EU ?_;refine On (U) ?_;refine CSteps.s ?_;exact CSteps.nil):p:=h
theorem ZcG(h:p:=by refine HpLe.cons (OwLe.cells (CellsLe.cons (AVle.int ZbD) (CellsLe.cons (AVle.int ZbD) (CellsLe.cons (AVle.int ZbD) CellsLe.nil)))) ?_;refine HpLe.cons (OwLe.cells (CellsLe.cons (AVle.int ZbD) (CellsLe.cons (AVle.int ZbD) (CellsLe.cons (AVle.int ZbD) CellsLe.nil)))) ?_;exact HpLe.nil):p:=h
theorem ZcH(h:p:=by exact HpLe.cons (Ad rfl)<|HpLe.cons (Ak rfl)<|HpLe.cons (OwLe.row ZbS)<|HpLe.nil):p:=h
theorem ZcI(h:p:=by exact HpLe.cons (Ad rfl)<|HpLe.cons (OwLe.row ZbS)<|HpLe.cons (Ak rfl)<|HpLe.nil):p:=h
theorem ZcJ(h:p:=by rw[ET ZbD];omega):p:=h
theorem ZcK(h:p:=by repeat (first | exact CellsLe.nil | refine CellsLe.cons (AVle.d rfl) ?_ | refine CellsLe.cons (AVle.le AL) ?_)):p:=h
theorem ZcL(h:p:=by exact HpLe.cons (OwLe.row ZbS)<|HpLe.cons (Ak rfl)<|HpLe.nil):p:=h
theorem ZcM(h:p:=by rw[YbS ZbD,ET ZbD];omega):p:=h
theorem ZcN(h:p:=by exact Yd<|Yd<|Yd<|FrLe.cons rfl (AVle.own rfl)<|Yd<|FrLe.nil):p:=h
theorem ZcO(h:p:=by exact HpLe.cons (OwLe.row ZbS)<|HpLe.cons (Ak rfl)<|HpLe.cons (Ad rfl)<|HpLe.nil):p:=h
theorem ZcP(h:p:=by rw[G];simp[Op.operands]):p:=h
theorem ZcQ(h:p:=by simp[Op.operands]):p:=h
theorem ZcR(h:p:=by rw[M];exact DW Q X R):p:=h
theorem ZcS(h:p:=by rw[G];simp[Op.operands,Call.operands]):p:=h
theorem ZcT(h:p:=by exact Yp<|Yp<|Yd<|FrLe.nil):p:=h
theorem ZcU(h:p:=by rw[BF];omega):p:=h
theorem ZcV(h:p:=by exact HpLe.cons (OwLe.dead)<|HpLe.cons (OwLe.dead)<|HpLe.nil):p:=h
theorem ZcW(h:p:=by exact HpLe.cons (OwLe.row (by simp[DB]))<|HpLe.cons (Ak rfl)<|HpLe.cons (Ad rfl)<|HpLe.nil):p:=h
theorem ZcX(h:p:=by exact Yr<|HpLe.cons (Ak rfl)<|HpLe.cons (Ad rfl)<|HpLe.nil):p:=h
theorem ZcY(h:p:=by simpa using C):p:=h
theorem ZcZ(h:p:=by simpa using J):p:=h
theorem Zda(h:p:=by rw[Yck ZbD];omega):p:=h
theorem Zdb(h:p:=by exact Yd<|Yd<|Yd<|FrLe.nil):p:=h
theorem Zdc(h:p:=by simp[Op.operands,Call.operands]):p:=h
theorem Zdd(h:p:=by exact Yp<|Yd<|Yd<|Yd<|FrLe.nil):p:=h
theorem Zde(h:p:=by exact Yp<|Yp<|Yp<|Yd<|FrLe.nil):p:=h
theorem Zdf(h:p:=by refine HpLe.cons (Ad rfl) ?_;refine HpLe.cons (Ak rfl) ?_;refine HpLe.cons (Ad rfl) ?_;(refine HpLe.cons (OwLe.varD (by rw[LR M];rfl)) ?_);exact HpLe.nil):p:=h
theorem Zdg(h:p:=by exact Yp<|FrLe.cons rfl (AVle.own rfl)<|FrLe.nil):p:=h
theorem Zdh(h:p:=by refine DF (Aa rfl) (Aa rfl) rfl rfl rfl rfl rfl ?_;refine⟨_,PartOk.one rfl (by exact CU rfl),?_⟩;refine⟨_,rfl,?_⟩;refine⟨_,rfl,?_⟩;rfl):p:=h
theorem Zdi(h:p:=by simpa using h):p:=h
theorem Zdj(h:p:=by exact HpLe.cons (OwLe.row (by simp[DB]))<|HpLe.cons (Ak rfl)<|HpLe.nil):p:=h
theorem Zdk(h:p:=by apply Yv;apply Yv;(refine HpLe.cons (OwLe.row ((IG Qk _ ⟨c*(BA P k).c,CT m (BA P k).m⟩).trans (by rw[<-j];simp[TC]))) ?_);exact HpLe.nil):p:=h
theorem Zdl(h:p:=by exact HpLe.cons (Ad rfl)<|HpLe.cons (Ad rfl)<|HpLe.cons (Ad rfl)<|HpLe.cons (Ad rfl)<|HpLe.cons (Ad rfl)<|HpLe.cons (OwLe.obj rfl)<|HpLe.nil):p:=h
theorem Zdm(h:p:=by simp[execOp,Z,go_sem]):p:=h
theorem Zdn(h:p:=by simpa using A):p:=h
theorem Zdo(h:p:=by rw[<-V.out];omega):p:=h
theorem Zdp(h:p:=by repeat (first | exact CellsLe.nil | refine CellsLe.cons (AVle.rows (id:=5) rfl) ?_ | refine CellsLe.cons (AVle.d rfl) ?_)):p:=h
theorem Zdq(h:p:=by rw[Q];simp[Op.operands]):p:=h
theorem Zdr(h:p:=by rw[V];simp[Op.operands]):p:=h
theorem Zds(h:p:=by exact ArgsLe.nil):p:=h
theorem Zdt(h:p:=by rw[J];exact Zip):p:=h
theorem Zdu(h:p:=by exact HpLe.cons (Ad rfl)<|HpLe.cons (Ak rfl)<|HpLe.cons (Ad rfl)<|HpLe.cons (Ad rfl)<|HpLe.cons (OwLe.obj rfl)<|HpLe.nil):p:=h
theorem Zdv(h:p:=by exact Yd<|Yd<|Yd<|Yd<|Yd<|Yd<|FrLe.nil):p:=h
theorem Zdw(h:p:=by exact Yr<|HpLe.nil):p:=h
theorem Zdx(h:p:=by simp[Kp, *]):p:=h
theorem Zdy(h:p:=by simp[Kq, *]):p:=h
theorem Zdz(h:p:=by refine HpLe.cons (Ad rfl) ?_;(refine HpLe.cons (OwLe.row (by rw[B];simp)) ?_);exact HpLe.cons (Ak rfl)<|HpLe.nil):p:=h
theorem ZdA(h:p:=by simp[execOp,H,go_sem]):p:=h
theorem ZdB(h:p:=by rw[Eq,<-Yaf]):p:=h
theorem ZdC(h:p:=by cases h):p:=h
theorem ZdD(h:p:=by exact Yd<|Yd<|Yp<|Yp<|Yd<|FrLe.nil):p:=h
theorem ZdE(h:p:=by first | exact CX | exact One.own rfl | exact One.ep):p:=h
theorem ZdG(h:p:=by exact Yd<|Yp<|Yp<|Yd<|FrLe.nil):p:=h
theorem ZdH(h:p:=by repeat (first | exact DsLe.nil | refine DsLe.cons (D.le.refl _) ?_ | refine DsLe.cons AL ?_)):p:=h
theorem ZdI(h:p:=by rw[G.out.1];omega):p:=h
theorem ZdJ(h:p:=by exact HpLe.cons (OwLe.varD rfl) (HpLe.cons (OwLe.varD rfl) (HpLe.cons (Ak rfl) HpLe.nil))):p:=h
theorem ZdK(h:p:=by simp[execOp,s,go_sem]):p:=h
theorem ZdL(h:p:=by rw[Yaa];omega):p:=h
theorem ZdM(h:p:=by repeat (first | exact HpLe.nil | apply Yv)):p:=h
theorem ZdN(h:p:=by rintro _ _ ⟨x,m,h,_⟩;rw[B]at h;cases h):p:=h
theorem ZdO(h:p:=by cases p<;>rfl):p:=h
theorem ZdP(h:p:=by rw[Yab,Yac S];exact Ybt _):p:=h
theorem ZdQ(h:p:=by rw[<-V.out,<-z.out]):p:=h
theorem ZdR(h:p:=by exact HpLe.cons (OwLe.row ZdB)<|HpLe.cons (Ak rfl)<|HpLe.cons (Ad rfl)<|HpLe.nil):p:=h
theorem ZdS(h:p:=by exact ArgsLe.cons rfl (D.le.refl _) (ArgsLe.cons rfl (D.le.refl _) ArgsLe.nil)):p:=h
theorem ZdT(h:p:=by exact Yd<|Yd<|Yp<|Yd<|Yd<|Yd<|FrLe.nil):p:=h
theorem ZdU(h:p:=by exact Yp<|Yp<|Yp<|Yd<|Yd<|Yd<|FrLe.nil):p:=h
theorem ZdV(h:p:=by simp[results,Tryz.results239,go_sem,J]):p:=h
theorem ZdW(h:p:=by show 7*i<=64;omega):p:=h
theorem ZdX(h:p:=by exact h):p:=h
theorem ZdY(h:p:=by exact FrLe.cons rfl (AVle.ptr rfl) (FrLe.cons rfl (AVle.ptr rfl) FrLe.nil)):p:=h
theorem ZdZ(h:p:=by rw[<-L.out];omega):p:=h
theorem Zea(h:p:=by rw[<-M.out];omega):p:=h
theorem Zeb(h:p:=by rw[I];simp[Op.operands]):p:=h
theorem Zec(h:p:=by rw[Y];simp[Op.operands]):p:=h
theorem Zed(h:p:=by simpa using E):p:=h
theorem Zee(h:p:=by simpa using q):p:=h
theorem Zef(h:p:=by show 0<v.getD (m+1) 0;have:v.getD (m+2-1) 0=v.getD (m+1) 0:=rfl;omega):p:=h
theorem Zeg(h:p:=by rw[xn.out];omega):p:=h
theorem Zeh(h:p:=by exact Yd<|Yd<|Yd<|Yd<|Yd<|FrLe.cons rfl (AVle.own rfl)<|Yd<|FrLe.nil):p:=h
theorem Zei(h:p:=by exact Yp<|Yp<|Yd<|FrLe.cons rfl (AVle.own rfl)<|Yd<|Yd<|Yd<|FrLe.nil):p:=h
theorem Zej(h:p:=by simp[Tb, *]):p:=h
theorem Zek(h:p:=by exact HpLe.cons (OwLe.dead)<|HpLe.cons (OwLe.dead)<|Yv<|HpLe.nil):p:=h
theorem Zel(h:p:=by refine HpLe.cons (OwLe.row (IG Qk R (BA P i))) ?_;exact HpLe.nil):p:=h
theorem Zem(h:p:=by refine HpLe.cons (OwLe.row (IG Qk R (BA Q k))) ?_;exact HpLe.nil):p:=h
theorem Zen(h:p:=by rw[l];exact YeG _ _):p:=h
theorem Zeo(h:p:=by simp only[BB,Nat.pow_one];omega):p:=h
theorem Zep(h:p:=by exact HpLe.cons (OwLe.row ZdB)<|HpLe.cons (Ak rfl)<|HpLe.nil):p:=h
theorem Zeq(h:p:=by exact Yd<|Yp<|Yp<|FrLe.cons rfl (AVle.own rfl)<|Yd<|FrLe.nil):p:=h
theorem Zer(h:p:=by exact Yv<|Yv<|Yv<|Yv<|Yv<|HpLe.cons (OwLe.obj rfl)<|HpLe.nil):p:=h
theorem Zes(h:p:=by exact Yp<|Yp<|Yp<|Yp<|Yd<|Yd<|Yp<|Yd<|Yd<|Yp<|Yd<|FrLe.nil):p:=h
theorem Zet(h:p:=by simpa using G):p:=h
theorem Zeu(h:p:=by simpa using R):p:=h
theorem Zev(h:p:=by exact FrLe.cons rfl (AVle.own rfl)<|Yp<|Yd<|Yd<|FrLe.nil):p:=h
theorem Zew(h:p:=by exact Yd<|Yd<|FrLe.cons rfl (AVle.own rfl)<|Yd<|FrLe.nil):p:=h
theorem Zex(h:p:=by simp[Zz, *]):p:=h
theorem Zey(h:p:=by rw[Yao p,show m+1-m-1=0 by omega];rfl):p:=h
theorem Zez(h:p:=by exact HpLe.cons (Ad rfl)<|HpLe.cons (Ak rfl)<|HpLe.nil):p:=h
theorem ZeA(h:p:=by rw[<-z.out];omega):p:=h
theorem ZeB(h:p:=by rw[B]at I;exact I):p:=h
theorem ZeC(h:p:=by rw[Z.out.1];omega):p:=h
theorem ZeD(h:p:=by rw[IntKind.wrap_i64];omega):p:=h
theorem ZeF(h:p:=by exact FrLe.cons rfl (Is rfl (D.le.refl _))<|FrLe.nil):p:=h
theorem ZeG(h:p:=by simpa[Ybm]using f):p:=h
theorem ZeH(h:p:=by exact FrLe.cons rfl (AVle.own rfl)<|Yd<|FrLe.nil):p:=h
theorem ZeI(h:p:=by rw[BF];exact xe):p:=h
theorem ZeJ(h:p:=by rw[N.out.2.2.2.1];omega):p:=h
theorem ZeL(h:p:=by rw[show rgP kind u x v I=false from q];simp[t]):p:=h
theorem ZeM(h:p:=by simp[execOp,e6,go_sem]):p:=h
theorem ZeN(h:p:=by simp[execOp,e7,go_sem]):p:=h
theorem ZeO(h:p:=by simp[execOp,e8,go_sem]):p:=h
theorem ZeQ(h:p:=by have:=(Yae.1 R).1;omega):p:=h
theorem ZeS(h:p:=by rw[Ybm,Yao p];omega):p:=h
theorem ZeT(h:p:=by rw[e]):p:=h
theorem ZeU(h:p:=by rw[YbQ,YaO];omega):p:=h
theorem ZeV(h:p:=by simp[execOp,resolve,invoke,t,xc,xe,go_sem]):p:=h
theorem ZeW(h:p:=by rw[j,m];omega):p:=h
theorem ZeX(h:p:=by simpa using B):p:=h
theorem ZeY(h:p:=by simpa using I):p:=h
theorem ZeZ(h:p:=by rw[YbM,YcX 1];exact I):p:=h
theorem Zfa(h:p:=by simp[execOp,resolve,invoke,t,e9,go_sem]):p:=h
theorem Zfb(h:p:=by simp[results,Tryz.results290,go_sem,xb]):p:=h
theorem Zfc(h:p:=by exact Yd<|Yp<|Yp<|Yd<|Yd<|Yd<|FrLe.nil):p:=h
theorem Zfd(h:p:=by simp[results,Tryz.results139,go_sem,E]):p:=h
theorem Zfe(h:p:=by simp[results,Tryz.results141,go_sem,E]):p:=h
theorem Zff(h:p:=by simp[results,Tryz.results236,go_sem,G]):p:=h
theorem Zfg(h:p:=by simp[results,Tryz.results291,go_sem,S]):p:=h
theorem Zfh(h:p:=by rw[v];simp[Op.operands,Call.operands]):p:=h
theorem Zfi(h:p:=by show m<=(I.hp++[_]).length;exact Zip):p:=h
theorem Zfj(h:p:=by rw[<-j.out];omega):p:=h
theorem Zfk(h:p:=by rw[K.out.1];omega):p:=h
theorem Zfl(h:p:=by rw[L.out.1];omega):p:=h
theorem Zfm(h:p:=by rw[X];simp[Co,Cq]):p:=h
theorem Zfn(h:p:=by rw[Y.out.1];omega):p:=h
theorem Zfo(h:p:=by rw[Ck Cw Q,<-Yaf];rfl):p:=h
theorem Zfp(h:p:=by rw[Ybo h];decide):p:=h
theorem Zfq(k:q)(h:Zaa q->p:=by intro qq;refine HYSteps.cons (.q rfl (Az rfl (Aa rfl) rfl (Aa rfl) rfl rfl)) ?_;refine HYSteps.cons (.q rfl (BU rfl rfl (Aa rfl) rfl rfl)) ?_;exact qq.a):p:=h ⟨k⟩
theorem Zfs(k:q)(h:Zaa q->p:=by intro qq;refine Go ?_;refine Bc [0] [] [] (I) (BX rfl) (λR=>(by repeat (first | exact AM (Hv R) | apply AF | apply PanQ.block | apply PanQ.loop):PanQ _ _) _) rfl rfl ZbC ZbA ZbH Zby ZbE trivial rfl ?_;exact qq.a):p:=h ⟨k⟩
theorem Zft(k:q)(h:Zaa q->p:=by intro qq;refine Go ?_;refine Bc [0] [0] [] (I) (BX rfl) (λR=>(by repeat (first | exact AM ZcR | apply AF | apply PanQ.block | apply PanQ.loop):PanQ _ _) _) rfl rfl ZbC ZbA ZbH Zby ZbE trivial rfl ?_;exact qq.a):p:=h ⟨k⟩
theorem Zfu(h:p:=by refine Go ?_;exact Yf):p:=h
theorem Zfv(k:q)(h:Zaa q->p:=by intro qq;refine Go ?_;refine FinP.ret (RetsA.d (Am (ResV.cell rfl rfl (Aa rfl) rfl rfl rfl) (D.le.refl _))) rfl ?_ rfl;exact qq.a):p:=h ⟨k⟩
theorem Zfw(k:q)(h:Zaa q->p:=by intro qq;refine Go ?_;refine Bc [0] [] [] (I) (BX rfl) (λR=>(by repeat (first | exact AM (Rd.none R) | apply AF | apply PanQ.block | apply PanQ.loop):PanQ _ _) _) rfl rfl ZbC ZbA ZbH Zby ZbE trivial rfl ?_;exact qq.a):p:=h ⟨k⟩
theorem Zfx(k:q)(h:Zaa q->p:=by intro qq;refine HYSteps.cons (.s rfl rfl rfl ZbH rfl rfl (Aa rfl)) ?_;refine HYSteps.cons (.q rfl (Bm rfl)) ?_;exact qq.a):p:=h ⟨k⟩
theorem Zfy(k:q)(h:Zaa q->p:=by intro qq;refine Go ?_;refine Ah (L.length-(k+1)) ZbD ⟨k+1,by omega,rfl,rfl⟩ ?_;exact qq.a):p:=h ⟨k⟩
theorem ZfA(h:p:=by refine Go ?_;exact AA (Am (ResV.cell rfl rfl (Aa rfl) rfl rfl rfl) (D.le.refl _))):p:=h
theorem ZfC(h:p:=by refine Go ?_;exact AA (Am (ResV.cell rfl rfl (Aa rfl) rfl rfl rfl) (Ce ZbN))):p:=h
theorem ZfE(k:q)(h:Zaa q->p:=by intro qq;refine Go ?_;refine Wq (Ho (ao rfl) (ao rfl) (Aa rfl) (Aa rfl) rfl Q (Dm (λ_=>rfl) Q)) ?_;exact qq.a):p:=h ⟨k⟩
theorem ZfG(k:q)(h:Zaa q->p:=by intro qq;refine Go ?_;refine EG (λH=>AE) ?_;exact qq.a):p:=h ⟨k⟩
theorem ZfH(k:q)(h:Zaa q->p:=by intro qq;refine Wq (DN (r:=((k+1:Nat):Int)) (ao rfl) (ao rfl) ZcJ) ?_;refine Go ?_;exact qq.a):p:=h ⟨k⟩
theorem ZfJ(k:q)(h:Zaa q->p:=by intro qq;refine Go ?_;refine AU [0,1] [] [] (c) Zbz rfl rfl ZbC ZbA ZbH Zby ZbE trivial rfl ?_;exact qq.a):p:=h ⟨k⟩
theorem ZfK(k:q)(h:Zaa q->p:=by intro qq;refine Go ?_;refine AU [0,1] [] [] (A) Zbz rfl rfl ZbC ZbA ZbH Zby ZbE trivial rfl ?_;exact qq.a):p:=h ⟨k⟩
theorem ZfL(k:q)(h:Zaa q->p:=by intro qq;refine Zfq ?_;refine HYSteps.cons (.q rfl (BP rfl K (ArgsLe.cons rfl (D.le.refl _) (ArgsLe.cons rfl (D.le.refl _) ArgsLe.nil)))) ?_;exact qq.a):p:=h ⟨k⟩
theorem ZfM(k:q)(h:Zaa q->p:=by intro qq;refine Wq (ER (ao rfl)) ?_;refine AU [0,1] [] [] (I) Zbz rfl rfl ZbC ZbA ZbH Zby ZbE trivial rfl ?_;exact qq.a):p:=h ⟨k⟩
theorem ZfN(k:q)(h:Zaa q->p:=by intro qq;refine Go ?_;refine Ah (P.length-(k+1)) ZbD ⟨k+1,by omega,rfl,rfl⟩ ?_;exact qq.a):p:=h ⟨k⟩
theorem ZfO(k:q)(h:Zaa q->p:=by intro qq;refine Kr ?_;refine Go ?_;exact qq.a):p:=h ⟨k⟩
theorem ZfP(k:q)(h:Zaa q->p:=by intro qq;refine Kr ?_;refine Wq (Cb (ao rfl) (Aa rfl) (Aa rfl) rfl rfl rfl rfl rfl) ?_;exact qq.a):p:=h ⟨k⟩
theorem ZfQ(h:p:=by refine Go ?_;exact AA (Am (ResV.cell rfl rfl (Aa rfl) rfl rfl rfl) (Ae Zej))):p:=h
theorem ZfR(h:p:=by refine Go ?_;exact AA (Am (ResV.cell rfl rfl (Aa rfl) rfl rfl rfl) (Ae Zex))):p:=h
theorem ZfT(k:q)(h:Zaa q->p:=by intro qq;refine DO ?_;refine Go ?_;exact qq.a):p:=h ⟨k⟩
theorem ZfW(h:p:=by refine Ah (s.length-(k+1)) ZbD ⟨k+1,by omega,rfl,rfl⟩ ?_;exact Ac Zci ZcG):p:=h
theorem ZfY(h:p:=by refine Zfx ?_;exact HYSteps.nil):p:=h
theorem Zgb(k:q)(h:Zaa q->p:=by intro qq;refine HYSteps.cons (.q rfl (Az rfl (Aa rfl) rfl (Aa rfl) rfl rfl)) ?_;refine HYSteps.cons (.q rfl (Az rfl (Aa rfl) rfl (Aa rfl) rfl rfl)) ?_;exact qq.a):p:=h ⟨k⟩
theorem Zgc(h:p:=by rw[Yab,Yac h];exact Ybt h):p:=h
theorem Zgd(h:p:=by simp[IntKind.wrap,IntKind.bits,IntKind.signed];omega):p:=h
theorem Zge(h:p:=by refine Ah (L.length-(k+1)) ZbD ⟨k+1,by omega,rfl,rfl⟩ ?_;exact Ac Zck Zcc):p:=h
theorem Zgf(k:q)(h:Zaa q->p:=by intro qq;refine HYSteps.cons (.q rfl (Az rfl (Aa rfl) rfl (Aa rfl) rfl rfl)) ?_;refine HYSteps.cons (.q rfl (Lt rfl rfl (Aa rfl) rfl rfl)) ?_;exact qq.a):p:=h ⟨k⟩
theorem Zgg(k:q)(h:Zaa q->p:=by intro qq;refine Zfq ?_;refine HYSteps.cons (.q rfl (BP rfl c (ArgsLe.cons rfl (D.le.refl _) (ArgsLe.cons rfl (D.le.refl _) ArgsLe.nil)))) ?_;exact qq.a):p:=h ⟨k⟩
theorem Zgh(k:q)(h:Zaa q->p:=by intro qq;refine Bj (KA 1 0 5 1 rfl rfl ZbH ZbD rfl rfl rfl rfl) ?_;refine AU [1,2] [] [] (L) Zbz rfl rfl ZbC ZbA ZbH Zby ZbE trivial rfl ?_;exact qq.a):p:=h ⟨k⟩
theorem Zgi(h:p:=by refine CutS.normal (EF k e&&decide (((e.a.length:Nat):Int)<=64)&&decide (∀x∈e.a,IvP x)&&decide (Wd k.n e.r),⟨e.n,e.cof,[],[],[],[],[],⟨no8,[],λ_=>[]⟩,[],e.sq,e.x,e.b⟩) ZbQ ?_;exact Ac Zcb ZbG):p:=h
theorem Zgk(k:q)(h:Zaa q->p:=by intro qq;refine Go ?_;refine AU [0,1] [] [] (B) Zbz rfl rfl ZbC ZbA ZbH Zby ZbE trivial rfl ?_;exact qq.a):p:=h ⟨k⟩
theorem Zgl(k:q)(h:Zaa q->p:=by intro qq;refine HYSteps.cons (.q rfl (Az rfl (Aa rfl) rfl (Aa rfl) rfl rfl)) ?_;refine Zfq ?_;exact qq.a):p:=h ⟨k⟩
theorem Zgm(h:p:=by have A:=xO.out _ _ E.out.2.2 (by rw[BF];exact xd.out);exact⟨q-1,by go_num,by have:=A.1;rw[BF]at this;exact this,xf.out _ _ E.out.2.2 E.out.2.1 A.1 A.2,j.out.1,j.out.2.drewN _⟩):p:=h
theorem Zgn(k:q)(h:Zaa q->p:=by intro qq;refine HYSteps.cons (.q rfl (BP rfl a (ArgsLe.cons rfl (D.le.refl _) (ArgsLe.cons rfl (D.le.refl _) ArgsLe.nil)))) ?_;refine HYSteps.cons (.q rfl (Eo (r:=((g:Nat):Int)) rfl rfl ((DE (AR V 4) (j:=2) ZbD).trans f))) ?_;exact qq.a):p:=h ⟨k⟩
theorem Zgo(h:p:=by refine CutS.normal (decide (((e.sq.length:Nat):Int)<=64)&&decide (∀x∈e.sq,SqP k.n x)&&JV k e,⟨e.n,[],e.g,e.o,e.c,e.q,e.s,e.r,e.a,[],e.x,e.b⟩) ZbQ ?_;exact Ac Zcb ZbG):p:=h
theorem Zgp(h:p:=by refine CutS.normal (decide (UH k.n 12 p),⟨0,[],n,d,r,o,l,s,b⟩) Zcl ?_;exact Ac Zcb ZbG):p:=h
theorem Zgq(k:q)(h:Zaa q->p:=by intro qq;refine ZfL ?_;refine HYSteps.cons (.q rfl (Eo (r:=((g:Nat):Int)) rfl rfl ((DE (AR V 4) (j:=2) ZbD).trans W))) ?_;exact qq.a):p:=h ⟨k⟩
theorem Zgr(h:p:=by have A:=xx.out _ _ C.out.2.2 (by rw[BF];exact Z.out);exact⟨q-1,by go_num,by have:=A.1;rw[BF]at this;exact this,a.out _ _ C.out.2.2 C.out.2.1 A.1 A.2,R.out.drewN _⟩):p:=h
theorem Zgs(k:q)(h:Zaa q->p:=by intro qq;refine HYSteps.cons (.q rfl (Bi rfl (Aa rfl))) ?_;refine HYSteps.cons (.n rfl (Aa rfl) rfl rfl rfl rfl rfl) ?_;exact qq.a):p:=h ⟨k⟩
theorem Zgt(h:p:=by go_wp2;exact⟨⟨q-1,r+U,by go_num,by go_num,by have:=xd.out;omega,by have:=l.out;omega,⟨E.out.2.2,E.out.2.1⟩,j.out.1,j.out.2.drewN _⟩,by simp[intOf];omega⟩):p:=h
theorem Zgw(k:q)(h:Zaa q->p:=by intro qq;refine Go ?_;refine Wq (ER (ao rfl)) ?_;exact qq.a):p:=h ⟨k⟩
theorem Zgx(h:p:=by go_wp2;exact⟨⟨q-1,r+V,by go_num,by go_num,by have:=Z.out;omega,by have:=l.out;omega,⟨C.out.2.2,C.out.2.1⟩,R.out.drewN _⟩,by simp[intOf];omega⟩):p:=h
theorem ZgA(h:p:=by go_wp2;exact⟨⟨j+1,xc,by simp,xd.out (H.out.2 ⟨by omega,by omega,λh=>by omega⟩),u.out _ (by rw[xe.out];rfl),Y.out _⟩,by simp[intOf];omega⟩):p:=h
theorem ZgD(h:p:=by have u:Hid (((r:Int)*4294967296+x)/d%4294967296=((r*4294967296+x)/d:Nat)/\((r:Int)*4294967296+x)%d=((r*4294967296+x)%d:Nat)):=A0p X R P;go_wp2;refine⟨⟨k,(r*4294967296+x)%d,_,by omega,rfl,by rw[u.out.2],YaT _ H,G.out.step C L.out.symm E.out H X P R u.out.1⟩,by simp[intOf]⟩):p:=h
theorem ZgE(h:p:=by have heq:(Op.equalIn Op.maxDepth t (.bool p) (.bool un)).run P w=.ok (p==un) w:=run_equalIn_bool w 9999 t p un k;simp[eqGuard,binOp,Op.equal,heq]):p:=h
theorem ZgF(h:p:=by simp only[A,resolve,invoke,builtin,Sem.run_bind,Sem.run_pure,Result.andThen_ok,YcJ,Ybf,Ycs,Y,E,p];exact f _ _ h):p:=h
theorem ZgG(h:p:=by refine Go ?_;exact AA (YS (ResV.cell rfl rfl (Aa rfl) rfl rfl rfl) (ResV.cell rfl rfl (Aa rfl) rfl rfl rfl) (ResV.tmp rfl rfl) (D.le.refl _))):p:=h
theorem ZgH(h:p:=by have heq:(Op.equalIn Op.maxDepth 112 (.agg (c8 a)) (.agg (c8 b))).run Tryz.prog w=.ok (Om a b) w:=IX a b w;simp[eqGuard,binOp,Op.equal,heq]):p:=h
theorem ZgJ(h:p:=by refine HYSteps.cons (.n rfl (Aa rfl) rfl rfl rfl rfl rfl) ?_;refine HYSteps.cons (.q rfl (Bm rfl)) ?_;refine HYSteps.cons (.q rfl (Bm rfl)) ?_;exact ZfY):p:=h
theorem ZgK(k:q)(h:Zaa q->p:=by intro qq;refine Go ?_;refine Ah (2-(k+1)) ZbD ⟨k+1,by omega,rfl,rfl⟩ ?_;exact qq.a):p:=h ⟨k⟩
theorem ZgL(h:p:=by rw[<-Z]at X;exact⟨_,L,X,R,H,e4,e5,λb F A=>by cases F;exact e6 A,λb F _=>e7 b F,λb F=>by cases F;exact .inr (Yah _)⟩):p:=h
theorem ZgM(k:q)(h:Zaa q->p:=by intro qq;refine Kr ?_;refine Zfy ?_;exact qq.a):p:=h ⟨k⟩
theorem ZgN(h:p:=by rw[YaO];omega):p:=h
theorem ZgO(k:q)(h:Zaa q->p:=by intro qq;rw[Tryz.ntmps24];refine Go ?_;refine Dy 9 ?_;refine DO ?_;refine⟨_,HStep.q rfl (Ey 3 rfl rfl ZbD),?_⟩;exact qq.a):p:=h ⟨k⟩
theorem ZgP(h:p:=by rintro e j ⟨d,P,Z,k,rfl,xb,Q⟩;exact⟨_,rfl,Q,d,P,Z,k,rfl,by rw[AJ,AJ,AJ,h.out.bool_eq,K.out.bool_eq,UX]at xb;exact xb⟩):p:=h
theorem ZgQ(h:p:=by refine Go ?_;exact AA (Rets.of2 (ResV.cell rfl rfl (Aa rfl) rfl rfl rfl) (ResV.tmp rfl rfl) (Cn (D.le.refl _) (D.le.refl _)))):p:=h
theorem ZgR(h:p:=by refine Dr (ao rfl) ?_;exact(by repeat (first | exact AM (b.symm) | apply AF | apply PanQ.block | apply PanQ.loop):PanQ _ _) _):p:=h
theorem ZgS(h:p:=by go_ret;exact⟨by rw[Sr (k:=q) ZdQ Zdo (λi K=>S.out.2 i K) (by rw[l.out,s.out];exact hgt)];rfl,(S.out.1.drewN _).drewN _⟩):p:=h
theorem ZgU(k:q)(h:Zaa q->p:=by intro qq;refine Go ?_;refine AU [0,1] [] [] (I) Zbz rfl rfl ZbC ZbA ZbH Zby ZbE trivial rfl ?_;exact qq.a):p:=h ⟨k⟩
theorem ZgV(h:p:=by rw[Yab,Yac C,e];rfl):p:=h
theorem ZgW(h:p:=by refine Wq (Eo (r:=((k:Nat):Int)) (ao rfl) (ao rfl) ((DE (AR V 1%((2^3:Nat):Int)) (j:=2) ZbD).trans ZbD)) ?_;exact ZfC):p:=h
theorem ZgX(k:q)(h:Zaa q->p:=by intro qq;rw[Tryz.ntmps49];refine Go ?_;exact qq.a):p:=h ⟨k⟩
theorem ZgY(h:p:=by refine DO ?_;exact Zfu):p:=h
theorem ZgZ(h:p:=by refine Go ?_;exact AA (Am (ResV.tmp rfl rfl) (Ae (by rw[A])))):p:=h
theorem Zha(k:q)(h:Zaa q->p:=by intro qq;refine Go ?_;refine Wq (EK (ao rfl) (Aa rfl)) ?_;exact qq.a):p:=h ⟨k⟩
theorem Zhb(h:p:=by refine Go ?_;refine ZfH ?_;refine Ah (n-(k+1)) ZbD ⟨k+1,h++[x],H,by omega,rfl,by simp[N],z,DV Q X B,rfl⟩ ?_;exact Ac ZbP ZcH):p:=h
theorem Zhc(h:p:=by congr 1;omega):p:=h
theorem Zhd(h:p:=by rw[YcW]at this;omega):p:=h
theorem Zhe(h:p:=by refine HYSteps.cons (.q rfl (Eo (r:=((g:Nat):Int)) rfl rfl ((DE (AR V 4) (j:=2) ZbD).trans h))) ?_;exact ZgJ):p:=h
theorem Zhf(h:p:=by refine Xg (Ex (n:=m) (ah rfl) (ah rfl) V X) ?_;exact ZgY):p:=h
theorem Zhg(k:q)(h:Zaa q->p:=by intro qq;refine Go ?_;refine Ah 0 ZbD ⟨r*y,2,.inr (.inr ⟨rfl,rfl,rfl⟩),rfl⟩ ?_;exact qq.a):p:=h ⟨k⟩
theorem Zhh(h:p:=by refine ZfT ?_;exact AA (Am (ResV.cell rfl rfl (Aa rfl) rfl rfl rfl) (Ae (congrArg AP (Et G.1 G.2))))):p:=h
theorem Zhl(h:p:=by refine Go ?_;exact AA (Am (ResV.cell rfl rfl (Aa rfl) rfl rfl rfl) (Ae (congrArg AP (Et e.1 e.2))))):p:=h
theorem Zhn(k:q)(h:Zaa q->p:=by intro qq;refine Zfq ?_;refine HYSteps.cons (.q rfl (BP rfl q (ArgsLe.cons rfl (D.le.refl _) (ArgsLe.cons rfl (D.le.refl _) (ArgsLe.cons rfl (D.le.refl _) (ArgsLe.cons rfl (D.le.refl _) (ArgsLe.cons rfl (D.le.refl _) ArgsLe.nil))))))) ?_;refine Zfq ?_;refine HYSteps.cons (.q rfl (Bi rfl (Aa rfl))) ?_;(refine HYSteps.cons (.q rfl (Zcd)) ?_);exact qq.a):p:=h ⟨k⟩
theorem Zho(h:p:=by obtain⟨k,rfl⟩:∃k,q=k+1:=⟨q-1,by omega⟩;rw[YbV,YbC,YcA]):p:=h
theorem Zhp(h:p:=by rw[YaD];omega):p:=h
theorem Zhq(h:p:=by obtain⟨A1,n1,W,rfl⟩:=T.form;exact⟨_,rfl,xa,_,_,_,rfl,by rw[Bn (BG _),AJ]at T;exact T⟩):p:=h
theorem Zhr(h:p:=by refine Go ?_;exact AA (Rets.of2 (ResV.tmp rfl rfl) (ResV.tmp rfl rfl) (Cn (Ae Zdx) (Ae Zdy)))):p:=h
theorem Zhs(h:p:=by rw[<-Z]at X;exact⟨_,I,X,Q,e3,.inl e4,e5,λb F=>by cases F;exact .inr (Yah _)⟩):p:=h
theorem Zht(h:p:=by have:=Lr (hp:=hp) (dd:=dd) (ty:=ty) (ps:=ps) (af:=af) (gd:=gd) (U:=U) E O;rwa [h]at this):p:=h
theorem Zhu(h:p:=by rw[Yab,Yac Q];exact h _ (Ybt Q)):p:=h
theorem Zhv(h:p:=by have Z:i (.tmp 1)=.pointer (some ⟨w.heap.size,0,none⟩):=p 1 ZbH;exact AD Zdm rfl):p:=h
theorem Zhw(h:p:=by have J:A (.tmp 5)=.int .i64 (k:Int):=p 5 ZbH;exact AD (by simp[execOp,J,go_sem]) rfl):p:=h
theorem Zhx(h:p:=by have xd:i (.tmp 12)=.pointer (some ⟨w.heap.size+1,1,none⟩):=E.1 _ rfl;have W:N.cell? ⟨w.heap.size+1,1,none⟩=some (.slice O G l):=V.cellv ((((ES _ _ ZbS).alloc _).drew.cell 1));exact AD (by simp[execOp,xd,W,go_sem]) rfl):p:=h
theorem Zhy(h:p:=by refine CutS.normal (decide (SmI n),⟨0,p,0,d,r,o,l,s,b⟩) Zcl ?_;exact Ac Zcb ZbG):p:=h
theorem Zhz(h:p:=by rw[Yab,Yac C];exact Ybt C):p:=h
theorem ZhA(h:p:=by have r:i (.tmp 7)=.pointer (some ⟨w.heap.size+1,0,none⟩):=E.1 _ rfl;have W:N.cell? ⟨w.heap.size+1,0,none⟩=some (.bool J):=V.cellv ((((ES _ _ ZbS).alloc _).drew.cell 0));exact AD (by simp[execOp,r,W,go_sem]) rfl):p:=h
theorem ZhB(h:p:=by have xa:i (.tmp 10)=.pointer (some ⟨w.heap.size,1,none⟩):=E.1 _ rfl;have W:N.cell? ⟨w.heap.size,1,none⟩=some (.slice A n c):=V.cellv (((((Blk.new _ _ _).alloc _).alloc _).drew.cell 1));exact AD (by simp[execOp,xa,W,go_sem]) rfl):p:=h
theorem ZhC(h:p:=by have:=(Yae.1 q).1;omega):p:=h
theorem ZhD(h:p:=by have U:i (.tmp 8)=.bool J:=E.2.1 _ rfl;exact AD (by simp[execOp,q,U,go_sem]) rfl):p:=h
theorem ZhE(h:p:=by rw[Yca,YaO,Ybu ZbD]at this;exact this):p:=h
theorem ZhF(h:p:=by have Y:i (.tmp 5)=.pointer (some ⟨w.heap.size,0,none⟩):=E.1 _ rfl;have W:N.cell? ⟨w.heap.size,0,none⟩=some (.bool b):=V.cellv (((((Blk.new _ _ _).alloc _).alloc _).drew.cell 0));exact AD (by simp[execOp,Y,W,go_sem]) rfl):p:=h
theorem ZhK(h:p:=by show(Fl L _).length<=6;simp[Fl];omega):p:=h
theorem ZhL(h:p:=by go_ret;exact⟨by rw[Ll (by rw[<-V.out,<-z.out];exact hgt)];rfl,Ext.refl _⟩):p:=h
theorem ZhM(h:p:=by obtain⟨A1,n1,W,rfl⟩:=T.form;exact⟨_,rfl,xa,_,_,_,rfl,by skip;exact T⟩):p:=h
theorem ZhN(k:q)(h:Zaa q->p:=by intro qq;refine Kr ?_;apply AWl.nil;exact qq.a):p:=h ⟨k⟩
theorem ZhP(h:p:=by refine Ab Tryz.func76 λv=>?_;rw[Tryz.ntmps76];exact Zfu):p:=h
theorem ZhQ(h:p:=by refine Go ?_;exact AA (Am (ResV.tmp rfl rfl) (Ae (by rw[LU];congr 3;omega)))):p:=h
theorem ZhR(h:p:=by go_ret;exact⟨by rw[Lk (by rw[<-V.out,<-z.out];exact Q)];rfl,Ext.refl _⟩):p:=h
theorem ZhS(h:p:=by have Z:i (.tmp 1)=.pointer (some ⟨u,0,none⟩):=G 1 ZbH;exact AD Zdm rfl):p:=h
theorem ZhT(h:p:=by rw[Yab,Yax,Ydn E];rfl):p:=h
theorem ZhU(h:p:=by refine Go ?_;refine Wq (ER (ao rfl)) ?_;refine Bc [0] [] [] (I) (BX rfl) (λR=>(by repeat (first | exact AM (R) | apply AF | apply PanQ.block | apply PanQ.loop):PanQ _ _) _) rfl rfl ZbC ZbA ZbH Zby ZbE trivial rfl ?_;rintro _ _ ⟨x,c,A,G,rfl,rfl⟩;refine ZfO ?_;refine FinP.ret (RetsA.one rfl) rfl ?_ rfl;exact⟨x,c,A,G,rfl,rfl⟩):p:=h
theorem ZhV(h:p:=by show(if s1.w.heap.size=s1.w.heap.size then i+1 else _)=i+1;rw[Yan rfl]):p:=h
theorem ZhW(h:p:=by refine CutS.normal (true,⟨0,p,n,d,r,o,l,s,b⟩) Zcl ?_;exact Ac Zcb ZbG):p:=h
theorem ZhX(h:p:=by go_ret;exact⟨by rw[xh.out λh=>by have:=H.out.1 h;omega];rfl,xg.out⟩):p:=h
theorem ZhY(h:p:=by rw[e];exact⟨(Ydk _ _).symm,(Ydl _ _).symm⟩):p:=h
theorem ZhZ(h:p:=by rw[Ycc]at Z;simp[execOp,W,resolve,Z,Deferred.ofValue,invoke,xb]):p:=h
theorem Zia(h:p:=by refine Ah (8-(k+1)) ZbD ⟨k+1,by omega,rfl,F,rfl⟩ ?_;exact Ac Zdd ZcA):p:=h
theorem Zib(h:p:=by refine Ah (8-(k+1)) ZbD ⟨k+1,by omega,rfl,rfl⟩ ?_;exact Ac Zcg ZcA):p:=h
theorem Zic(h:p:=by refine Ah (8-(j+1)) ZbD ⟨j+1,by omega,rfl,rfl⟩ ?_;exact Ac ZcC Zep):p:=h
theorem Zid(h:p:=by intro N i V E p I t;have s:i (.tmp 2)=.pointer (some ⟨w.heap.size,0,none⟩):=p 2 ZbH;exact AD ZdK rfl):p:=h
theorem Zie(h:p:=by intro N i V E p I t;have H:i (.tmp 3)=.pointer (some ⟨w.heap.size+1,0,none⟩):=p 3 ZbH;exact AD ZdA rfl):p:=h
theorem Zif(h:p:=by simp only[down,F];rfl):p:=h
theorem Zig(h:p:=by refine FinP.ret (RetsA.one rfl) rfl ?_ rfl;exact⟨_,_,M,B,rfl,rfl⟩):p:=h
theorem Zih(h:p:=by refine ZfT ?_;exact AA (Am (ResV.tmp rfl rfl) (Ae (by rw[heq,B,e])))):p:=h
theorem Zii(h:p:=by rw[Yay,Ydf Zip];simp):p:=h
theorem Zij(h:p:=by have:(r+1)*4294967296<=d*4294967296:=YaB _ X;omega):p:=h
theorem Zik(h:p:=by go_ret;exact⟨by rw[p.out];rfl,(F.out.2.2.2.2.drewN _).drewN _⟩):p:=h
theorem Zim(h:p:=by rintro _ _ ⟨rfl,rfl⟩;refine ZfO ?_;refine Ah (8-(k+1)) ZbD ⟨k+1,by omega,rfl,rfl⟩ ?_;exact Ac Zcg Zcm):p:=h
theorem Zin(h:p:=by refine AU [0,1] [] [] (I) Zbz rfl rfl ZbC ZbA ZbH Zby ZbE trivial rfl ?_;exact Zim):p:=h
theorem Zio(h:p:=by refine ZfE ?_;exact Zfu):p:=h
theorem Zip(h:p:=by simp;omega):p:=h
theorem Ziq(h:p:=by go_wp2;exact⟨⟨k,_,_,by omega,rfl,xm.out⟩,by simp[intOf]⟩):p:=h
theorem Zir(h:p:=by rw[<-YbC];exact Zhc):p:=h
theorem Zit(h:p:=by rw[R.out]at this;exact this):p:=h
theorem Ziu(h:p:=by rw[M.out]at this;exact this):p:=h
theorem Ziw(h:p:=by refine Ab Tryz.func170 λv=>?_;rw[Tryz.ntmps170];exact Zfu):p:=h
theorem Zix(h:p:=by refine CutS.normal () (by simp[Xa,eq3,A,B]) ?_;exact Ac Zdb ZcV):p:=h
theorem Ziy(h:p:=by have e7:L (.tmp 7)=.int .i64 (k:Int):=p 7 ZbH;exact AD ZeN rfl):p:=h
theorem Ziz(h:p:=by have e6:K (.tmp 6)=.int .i64 (k:Int):=p 6 ZbH;exact AD ZeM rfl):p:=h
theorem ZiA(h:p:=by have e8:K (.tmp 8)=.int .i64 (j:Int):=p 8 ZbH;exact AD ZeO rfl):p:=h
theorem ZiB(h:p:=by rw[show((k:Nat):Int).toNat=k from rfl,I.eq]at this;exact this):p:=h
theorem ZiC(h:p:=by refine Go ?_;exact AA (Am (ResV.tmp rfl rfl) (Ae (by rw[Y])))):p:=h
theorem ZiD(h:p:=by refine Go ?_;exact AA (Am (ResV.tmp rfl rfl) (Ae (by rw[b])))):p:=h
theorem ZiE(h:p:=by rw[Gs];refine Ab Tryz.func24 λv=>?_;refine ZgO ?_;refine DO ?_;exact ZfC):p:=h
theorem ZiF(h:p:=by simp only[Yav];omega):p:=h
theorem ZiG(h:p:=by rw[<-YcW];exact YaW K (Yah n)):p:=h
theorem ZiH(h:p:=by rw[Ycu,Ybd];exact YcF m BB):p:=h
theorem ZiI(h:p:=by rw [YbI Q.out,BL];exact Words.nil _ _ _ ZbD):p:=h
theorem ZiJ(k:q)(h:Zaa q->p:=by intro qq;rw[Yay,YaN G]at Z;rw[YaN G];exact qq.a):p:=h ⟨k⟩
theorem ZiK(h:p:=by have:(k+1)*g<=len*g:=YaB g C;exact Zhd):p:=h
theorem ZiL(h:p:=by simp only[CK.q.injEq]at this;exact Prod.ext Z this.symm):p:=h
theorem ZiM(h:p:=by rw[Kd 9998 a b W (List.range 8) ZbS]at this;exact this):p:=h
theorem ZiN(h:p:=by refine Go ?_;exact AA (Am (ResV.tmp rfl rfl) (Ae ZeT))):p:=h
theorem ZiO(h:p:=by rw[Yan (by simp[Region.wanted,ck.gd])];exact .inl h):p:=h
theorem ZiP(h:p:=by simp only[Yam,YdW]at F;have Z:m.length=g:=Yao F.1;rw[Y _ _ h,Iw ZbD]):p:=h
theorem ZiQ(h:p:=by go_ret;exact⟨by rw[K.out];rfl,V.out.trans L.out⟩):p:=h
theorem ZiR(h:p:=by rw[E]at this;exact this):p:=h
theorem ZiS(h:p:=by simp only[maxLen];omega):p:=h
theorem ZiT(h:p:=by refine HpLe.cons (OwLe.cells ZcK) ?_;exact HpLe.nil):p:=h
theorem ZiU(h:p:=by rw[xa.size];exact(Yae.1 m).1):p:=h
theorem ZiV(h:p:=by rw[List.set_eq_take_append_cons_drop,Yan B];rfl):p:=h
theorem ZiW(h:p:=by refine Go ?_;exact AA (Am (ResV.tmp rfl rfl) (AL))):p:=h
theorem ZiX(h:p:=by rw[getD_set_ne false (λe=>I e.symm)]at h;exact h):p:=h
theorem ZiY(h:p:=by rw[F]at h;cases h):p:=h
theorem ZiZ(h:p:=by rw[YbC,<-YbM]at this;exact this):p:=h
theorem Zja(h:p:=by rw[show i+(j+1)=i+1+j by omega]at this;exact this):p:=h
theorem Zjc(h:p:=by have:=CI (c:=n) G.out.2.2.1 G.out.2.1 ZdI ZbD;rw[G.out.1]at this;exact this):p:=h
theorem Zjd(h:p:=by congr 2;exact Array.eq_empty_of_size_eq_zero ZbS):p:=h
theorem Zje(k:q)(h:Zaa q->p:=by intro qq;refine⟨Y,by rw[u.out.2];rfl,?_,G.out.2.2.2.2.trans V⟩;rw[Bn G.out.2.1,<-u.out.1]at l;exact qq.a):p:=h ⟨k⟩
theorem Zjf(h:p:=by have:=h.how;cases this):p:=h
theorem Zjg(h:p:=by refine DO ?_;exact ZfA):p:=h
theorem Zji(h:p:=by refine ZfE ?_;refine Go ?_;refine Ah (8-(k+1)) ZbD ⟨k+1,by omega,rfl,E,rfl⟩ ?_;exact Ac Zcg ZcA):p:=h
theorem Zjj(h:p:=by refine Go ?_;refine CutS.normal (EF k e,⟨e.n,e.cof,[],[],[],[],[],e.r,e.a,e.sq,e.x,e.b⟩) ZbQ ?_;exact Ac Zcb ZbG):p:=h
theorem Zjk(h:p:=by refine Go ?_;exact ZfW):p:=h
theorem Zjl(h:p:=by simpa using B):p:=h
theorem Zjm(h:p:=by simp[YaP this]):p:=h
theorem Zjn(h:p:=by exact .inl (opStep_wp xm.2 (eval_operands z xa m E xg xf) (xu hw) λv w2 ⟨V,xy⟩=>xJ v w2 _ rfl V xy)):p:=h
theorem Zjo(h:p:=by exact⟨n,Yah _,rfl,by rw[j.out,YaV];rfl⟩):p:=h
theorem Zjp(h:p:=by exact ((((Ext.refl _).alloc _).trans V).set (Yah _) _).set (Yah _) _):p:=h
theorem Zjq(h:p:=by exact ((((Ext.refl _).alloc _).trans P.out).set (Yah _) _).set (Yah _) _):p:=h
theorem Zjr(h:p:=by exact .cons (Stab.eq _) (.cons (Stab.eq _) (.cons (Stab.eq _) (.cons (Stab.eq _) (.cons (Stab.eq _) (.cons (Stab.eq _) (.cons (Stab.eq _) (.cons (Stab.eq _) (.cons (Stab.eq _) (.cons (λ_ _ _ F h=>h.ext F) (.cons (λ_ _ _ F ⟨b,A,n,c,B,C⟩=>⟨b,A,n,c,B,C.ext F⟩) .nil))))))))))):p:=h
theorem Zjs(h:p:=by exact ((((((Ext.refl _).alloc _).alloc _).alloc _).drew.trans V.out).set ZcE _).set ZcE _):p:=h
theorem Zjt(h:p:=by simp[eqGuard,binOp,Op.intArith,e]):p:=h
theorem Zju(h:p:=by simp[execOp,Q,Z,J,Instr.indexAt,Instr.sureAddr,asIntOf,run_underlying M.und,I,K,G.run_size,Addr.add_lit]):p:=h
theorem Zjv(h:p:=by exact ⟨undef,λh=>absurd h a⟩):p:=h
theorem Zjw(h:p:=by exact⟨_,H,j,⟨R,C,M⟩,.pass (x:=.inLoop c) rfl (λ_ _=>.inl ZbS) Z⟩):p:=h
theorem Zjx(h:p:=by exact setRow_other s.w g b _ (λe=>F e)):p:=h
theorem Zjy(h:p:=by exact ⟨_,rfl,.inr ⟨rfl,by omega⟩⟩):p:=h
theorem Zjz(h:p:=by exact ⟨T.df,v,A,v,rfl,G,rfl,T.le.le λ_ h=>h,B⟩):p:=h
theorem ZjA(h:p:=by exact .inr ⟨j,by omega,h3⟩):p:=h
theorem ZjB(h:p:=by exact⟨0,by omega,rfl,rfl,(Ext.refl _).alloc _⟩):p:=h
theorem ZjC(h:p:=by decide +kernel):p:=h
theorem ZjD(h:p:=by rw[Yai ZbD,Yai ZbD]):p:=h
theorem ZjE(h:p:=by exact⟨by omega,λ_=>by omega⟩):p:=h
theorem ZjF(h:p:=by simpa using this):p:=h
theorem ZjG(h:p:=by rwa [YaO,Ybu ZbD]at this):p:=h
theorem ZjH(h:p:=by exact⟨x,by simp[g],I.out.1.trans S.out.symm,I.out.2.1,I.out.2.2.1,I.out.2.2.2.1,by rw[S.out];exact B.out⟩):p:=h
theorem ZjI(h:p:=by rw[Yaf,<-Ydi,Yca,Yca]):p:=h
theorem ZjJ(h:p:=by rw[h,YaM q,Ydt,YaS X]):p:=h
theorem ZjK(h:p:=by exact ((((((((Ext.refl _).alloc _).alloc _).alloc _).alloc _).trans i.out |>.set ZcE _).set ZcE _).set ZcE _).set ZcE _):p:=h
theorem ZjL(h:p:=by simp[BA,Yab,Yac h]):p:=h
theorem ZjM(h:p:=by exact Yag ((YaN b).symm.trans m)):p:=h
theorem ZjN(h:p:=by exact Yag ((YaN b).symm.trans Z)):p:=h
theorem ZjO(h:p:=by exact Yag h):p:=h
theorem ZjP(h:p:=by exact Ac Zcj Zcc):p:=h
theorem ZjQ(h:p:=by exact AA (Am (ResV.cell rfl rfl (Aa rfl) rfl rfl rfl) (D.le.refl _))):p:=h
theorem ZjR(h:p:=by exact .inl ⟨Ybe h,h⟩):p:=h
theorem ZjS(h:p:=by exact .inr (.inl ⟨by rw[h];rfl,h⟩)):p:=h
theorem ZjT(h:p:=by exact .inr (.inr ⟨Ybo h,h⟩)):p:=h
theorem ZjU(h:p:=by simp[BA,Yab,Yac C]):p:=h
theorem ZjV(h:p:=by exact AA (Am (ResV.tmp rfl rfl) (Ae (by congr 2;omega)))):p:=h
theorem ZjW(h:p:=by exact ⟨T.df,v,B,.inl ⟨v,rfl,N,l,r,_,n,rfl,xe,U⟩⟩):p:=h
theorem ZjX(h:p:=by rw[heq,GP A,(YaL ZbD:Q.drop k=[]),CW]):p:=h
theorem ZjY(h:p:=by exact Ac (by exact Yd<|Yd<|Yd<|Yd<|Yd<|FrLe.nil) Zcc):p:=h
theorem ZjZ(h:p:=by exact(show a'.eval (.const v)=v from rfl)):p:=h
theorem Zka(h:p:=by exact(show a'.eval (.func f)=_ from rfl)):p:=h
theorem Zkb(h:p:=by exact NG (L:=L) (rs:=f) (i:=i+1) ZcZ A Zfi (λj G=>by rw[Yai ZbD];exact v j G) Y (xk b T _ e5) xh xf xd):p:=h
theorem Zkc(h:p:=by exact YbJ _ _):p:=h
theorem Zkd(h:p:=by exact⟨rfl,by simp only[CC,Yaf];rfl⟩):p:=h
theorem Zke(h:p:=by rw[Br,Yaa]):p:=h
theorem Zkf(h:p:=by exact Ac ZbT ZcI):p:=h
theorem Zkg(h:p:=by exact⟨by simpa[AV.below,Ybm]using E,X.2⟩):p:=h
theorem Zkh(h:p:=by exact Ac ZbP Zch):p:=h
theorem Zki(h:p:=by exact Ac Zce ZbM):p:=h
theorem Zkj(h:p:=by exact .inr ⟨g,cap,cur,e1,e2,(F g (by rw[e1];rfl)).1.trans e3,e4⟩):p:=h
theorem Zkk(h:p:=by exact xK k' B (by rwa [Ycr]at xh)):p:=h
theorem Zkl(h:p:=by exact Ac (by exact Yp<|Yp<|Yp<|Yd<|Yd<|FrLe.nil) Zdu):p:=h
theorem Zkm(h:p:=by exact Ac ZbZ (by(refine HpLe.cons (OwLe.row (by rw[B];simp)) ?_);exact HpLe.cons (Ak rfl)<|HpLe.cons (Ad rfl)<|HpLe.nil)):p:=h
theorem Zkn(h:p:=by exact Ac Zcb ZbG):p:=h
theorem Zko(h:p:=by exact AA (Am (ResV.tmp rfl rfl) (Ae (congrArg (λz=>ex (.bool z)) ZeL)))):p:=h
theorem Zkp(h:p:=by exact ClOk.mk' [] [] rfl rfl ⟨by dsimp only;omega,PB.nil,by dsimp only;omega,by dsimp only;omega,.inl ZbW,λ_=>rfl,by simp,by simp,by simp⟩):p:=h
theorem Zkq(h:p:=by exact Ybt _):p:=h
theorem Zkr(h:p:=by exact Ac Zco Zcp):p:=h
theorem Zks(h:p:=by exact⟨YdR (YbR _),rfl⟩):p:=h
end
end Go.Proofs
namespace Go.Proofs.YtcikkglcoeedlaaGreat
open _root_.Go.Proofs.Tryz
variable{vl:Act}{vN:Array Bool}{vY:Array Oper}{vB:Array Value}{p:Bool}{vR:Exit->Act->World->Prop}{a j:Int}{l f vo:List Nat}{n b T m:Nat}{va:Oper}{uw:Operand->Value}{ux:Option Addr}{P:Program}{t:TypeId}{z u:Value}{w q:World}
section
open Go.RowKit
def Ext(w N:World):Prop:=Below w.heap.size w N
theorem Ext.refl(w:World):Ext w w:=Below.refl _ _
theorem Ext.trans{a b c:World}(h:Ext a b)(k:Ext b c):Ext a c:=Below.trans h (Below.mono k h.size)
theorem Ext.drew{a b:World}(h:Ext a b):Ext a b.drew:=Below.drew h
theorem Ext.drewN(h:Ext w q)(n:Nat):Ext w (q.drewN n):=by
 obtain⟨A,B,L,S,C⟩:=h;exact⟨A,B,L,S,C⟩
theorem Ext.size{a b:World}(h:Ext a b):a.heap.size<=b.heap.size:=Below.size h
theorem Ext.block{a b:World}(h:Ext a b){k:Nat}(C:k<a.heap.size):b.heap[k]? = a.heap[k]?:=Below.block h k C
theorem Ext.cell{a b:World}(h:Ext a b){p:Addr}(G:p.block<a.heap.size):b.cell? p=a.cell? p:=Below.cell h G
theorem Ext.frozen{a b:World}(h:Ext a b){p:Addr}(G:p.block<a.heap.size):b.frozen? p=a.frozen? p:=Below.frozen h G
theorem Ext.cellv{a b:World}(h:Ext a b){p:Addr}{v:Value}(r:a.cell? p=some v):b.cell? p=some v:=(h.cell (World.block_lt_of_cell? a p r)).trans r
theorem Ext.alloc{a b:World}(h:Ext a b)(o:Obj):Ext a (b.alloc o):=Below.alloc h h.size o
theorem Af{p:Prop}(h:p):Hid p:=h
def OpStep(P:Program)(o:Oper)(ev:Operand->Value)(w:World)(R:Value->World->Prop):Prop:=
 match (execOp ev o).run P w with
 |.ok (.value v) N=>R v N
 |.ok .skip N=>R undef N
 |.ok (.enter f args) N=>Calls P f args N λe L=>∃v,e=.returned v/\R v L
 |_=>False
structure Shape where
 env:List (Nat×Nat)
 bef:List Nat
 deps:List Nat
def upd(g:Nat->Value)(i:Nat)(v:Value):Nat->Value:=λk=>if k=i then v else g k
def UF(i:Operand->Value)(g:Nat->Value):List (Nat×Nat)->Prop
 |[]=>True
 |(t,j)::r=>i (.tmp t)=g j/\UF i g r
def Fn(o:Oper)(g:Nat->Value):Bool:=
 match o.guard with
 |none=>true
 |some (j,b)=>match g j with |.bool c=>c==b |_=>false
abbrev Fact:=List Value->World->Prop
def Known(S:List Shape)(c:List Fact)(i:Nat)(g:Nat->Value)(w:World):Prop:=
 ∀x,S[i]? = some x->∀j∈x.bef,∀y F,S[j]? = some y->c[j]? = some F->F (y.deps.map g) w
def StepAt(P:Program)(S:List Shape)(c:List Fact)(a:Act)(Q:World)(i:Nat)(o:Oper)(x:Shape)(F:Fact):Prop:=
 ∀(g:Nat->Value) (w:World) (A:Operand->Value),Ext Q w->Known S c i g w->UF A g x.env ->
  (∀t,(∀p∈x.env,p.1≠t)->A (.tmp t)=a.tmps.getD t undef)->(∀v,A (.const v)=v)->(∀f,A (.func f)=.func (.func f) #[] #[]) ->
  (Fn o g=true->OpStep P o A w λv N=>Ext w N/\F (x.deps.map (upd g i v)) N)/\(Fn o g=false->F (x.deps.map (upd g i undef)) w)
def StepsAt(P:Program)(A:List Shape)(c:List Fact)(a:Act)(Q:World):Nat->List Oper->List Shape->List Fact->Prop
 |i,o::L,x::S,F::T=>StepAt P A c a Q i o x F/\StepsAt P A c a Q (i+1) L S T
 |_,_,[],[]=>True
 |_,_,_,_=>False
theorem StepsAt.at{P:Program}{C:List Shape}{c:List Fact}{a:Act}{Q:World}:∀{S:List Shape} {T:List Fact} {L:List Oper} {i:Nat},StepsAt P C c a Q i L S T ->
  S.length=T.length/\∀k o x,L[k]? = some o->S[k]? = some x->∃F,T[k]? = some F/\StepAt P C c a Q (i+k) o x F
 |[],[],L,i,_=>⟨rfl,λk o x _ E=>by simp at E⟩
 |[],_::_,L,i,h=>by cases L<;>exact h.elim
 |_::_,[],L,i,h=>by cases L<;>exact h.elim
 |x::S,F::T,[],i,h=>h.elim
 |x::S,F::T,o::L,i,h=>Zab
def Bz(o:Oper):List Nat:=(o.after.toList.filter λe=>Region.binds .any e).map (·.on)
def Du(S:List Shape)(j:Nat):List Nat:=(S[j]?.map (·.bef)).getD []
def BN:Op->Bool
 |.select ..=>false
 |_=>true
def Fm(L:List Oper)(S:List Shape)(i:Nat)(o:Oper)(x:Shape):Bool:=
 x.bef.all (λj=>(Bz o).any λe=>e==j||(Du S e).contains j) &&
 x.deps.all (λk=>k==i||x.bef.contains k) &&
 x.env.all (λp=>x.bef.contains p.2&&decide (p.2<S.length)&&(match L[p.2]? with | some w=>w.dst==some p.1 | none=>false)) &&
 o.op.operands.toList.all (fun | .tmp t=>(x.env.map (·.1)).contains t||((List.range S.length).all λj=>match L[j]? with | some w=>w.dst != some t||j==i||(Du S j).contains i | none=>true) | _=>true) &&
 (match o.guard with | some (j,_)=>x.bef.contains j&&decide (j<S.length)&&(match L[j]? with | some w=>w.dst.isSome | none=>false) | none=>true) &&
 BN o.op
def A4v(L:List Oper)(S:List Shape)(t:Nat)(o:Oper):Bool:=
 (List.range t).all λj=>(Bz o).any λe=>e==j||(if e<S.length then(Du S e).contains j else decide (j<e))
def Ed(L:List Oper)(S:List Shape):Bool:=
 decide (S.length<=L.length) &&
 L.zipIdx.all (λ(o,i)=>(Bz o).all (λe=>decide (e<i)) &&
  (match S[i]? with | some x=>Fm L S i o x | none=>A4v L S i o)) &&
 (List.range S.length).all (λi=>(List.range S.length).all λj=>i==j||(match L[i]?,L[j]? with | some o,some w=>o.dst.isNone||o.dst != w.dst | _,_=>true))
def HH(L:List Oper)(n k:Nat):Bool:=(L.take n).all λo=>match o.dst with | some d=>decide (d<k) | none=>true
def FA(g:Nat->Value):List Oper->Nat->Act->Act
 |[],_,a=>a
 |o::r,i,a=>FA g r (i+1) (a.put o.dst (g i))
section
variable {P:Program} {L:List Oper} {sh:List Shape} {Rs:List Fact} {a:Act} {w0:World}
theorem DG(h:Ed L sh=true):sh.length<=L.length:=by
 simp only[Ed,Yam,Ybb]at h;exact h.1.1
theorem CO(h:Ed L sh=true){i:Nat}(q:L[i]? = some va) :
  (∀e∈Bz va,e<i)/\(∀x,sh[i]? = some x->Fm L sh i va x=true)/\(sh[i]? = none->A4v L sh i va=true):=by
 simp only[Ed,Yam]at h
 have B:=Yaj.1 h.1.2 (va,i) (by
  rw[Ycd];exact q)
 simp only[Yam,Yaj,Ybb]at B;refine⟨B.1,λx E=>?_,λE=>?_⟩
 .have:=B.2;exact ZiR
 .have:=B.2;exact ZiR
theorem Gw(h:Ed L sh=true){i j:Nat}{o w:Oper}(K:i<sh.length)(A:j<sh.length)(q:L[i]? = some o)(M:L[j]? = some w)(e:o.dst=some T)(b:w.dst=some T):i=j:=by
 simp only[Ed,Yam]at h;have B:=Yaj.1 (Yaj.1 h.2 i (YaZ.2 K)) j (YaZ.2 A);rw[q,M]at B;simp[e,b]at B;exact B
theorem LN{e:Edge}(b:e∈va.after)(F:Region.binds .any e=true):e.on∈Bz va:=by
 unfold Bz;exact YaA.2 ⟨e,YdX.2 ⟨by simpa using b,F⟩,rfl⟩
theorem JR(h:n∈Bz va):∃e∈va.after,Region.binds .any e=true/\e.on=n:=by
 unfold Bz at h;obtain⟨e,b,rfl⟩:=YaA.1 h;obtain⟨A,B⟩:=YdX.1 b;exact⟨e,by simpa using A,B,rfl⟩
structure HInv(L:List Oper)(sh:List Shape)(Rs:List Fact)(a:Act)(w0:World)(listed:Array Bool)(g:Nat->Value)(a':Act)(w':World):Prop where
 size:listed.size=L.length
 closed:∀j o,L[j]? = some o->listed.getD j false=true->∀e∈Bz o,listed.getD e false=true
 tail:∀t,sh.length<=t->listed.getD t false=false
 asz:a'.tmps.size=a.tmps.size
 adef:a'.defers=a.defers
 a1:∀j o d,j<sh.length->L[j]? = some o->listed.getD j false=true->o.dst=some d->a'.tmps[d]? = some (g j)
 a2:∀t,(∀j o,j<sh.length->L[j]? = some o->listed.getD j false=true->o.dst≠some t)->a'.tmps[t]? = a.tmps[t]?
 facts:∀j y F,sh[j]? = some y->Rs[j]? = some F->listed.getD j false=true->F (y.deps.map g) w'
 ext:Ext w0 w'
variable{us:Shape}
theorem EO(h:sh[n]? = some us):n<sh.length:=(Yae.1 h).1
theorem Em(F:Ed L sh=true)(I:∀j o,L[j]? = some o->vN.getD j false=true->∀e∈Bz o,vN.getD e false=true) :
  ∀(i:Nat) (x:Shape) (o:Oper),sh[i]? = some x->L[i]? = some o->(∀e∈Bz o,vN.getD e false=true)->∀j∈x.bef,vN.getD j false=true:=by
 intro i
 induction i using Nat.strongRecOn with
 |_ i u=>
  intro x o E q h j C;obtain⟨Q,s,_⟩:=CO F q;have A:=s x E;simp only[Fm,Yam]at A;have B:=Yaj.1 A.1.1.1.1.1 j C;obtain⟨e,b,J⟩:=Yci.1 B;have G:=h e b;simp only[Ybg,YcD]at J;rcases J with rfl | J
  .exact G
  .have R:=Q e b
   cases O:sh[e]? with
   |none=>simp[Du,O]at J
   |some y=>
    have d:e<L.length:=Yaq (EO O) (DG F);have K:L[e]? = some L[e]:=Yac d;refine u e R y _ O K (I e _ K G) j ?_;simpa[Du,O]using J
noncomputable def Qg (a:Act) (g:Nat->Value) (env:List (Nat×Nat)):Operand->Value
 |.tmp t=>match env.find? (λp=>p.1==t)with
  |some p=>g p.2
  |none=>a.tmps.getD t undef
 |.const v=>v
 |.global b=>.pointer (some ⟨b,0,none⟩)
 |.func f=>.func (.func f) #[] #[]
theorem HG(F:Ed L sh=true){i:Nat}(E:sh[i]? = some us)(q:L[i]? = some va){p:Nat×Nat}(G:p∈us.env) :
  p.2∈us.bef/\p.2<sh.length/\∃w,L[p.2]? = some w/\w.dst=some p.1:=by
 have A:=(CO F q).2.1 us E;simp only[Fm,Yam]at A;have B:=Yaj.1 A.1.1.1.2 p G;simp only[Yam,Ybb]at B;obtain⟨⟨C,S⟩,n⟩:=B;refine⟨by simpa using C,S,?_⟩;split at n
 .rename_i w M;exact⟨w,M,by simpa using n⟩
 .cases n
theorem Sk{i:Operand->Value}{g:Nat->Value}:∀{env:List (Nat×Nat)},(∀p∈env,i (.tmp p.1)=g p.2)->UF i g env
 |[],_=>trivial
 |(t,j)::r,h=>⟨h (t,j) ZbS,Sk λp G=>h p (by simp[G])⟩
theorem step_inv(S:Ed L sh=true)(N:HH L sh.length a.tmps.size=true)
  (xb:∀F∈Rs,∀V X c,Ext X c->F V X->F V c)
 {g:Nat->Value} (W:HInv L sh Rs a w0 vN g vl w) {i:Nat} {F:Fact} (Q:L[i]? = some va) (E:sh[i]? = some us) (hF:Rs[i]? = some F)
  (u:vN.getD i false=false) (o:∀e∈Bz va,vN.getD e false=true) (b:Ext w q) (R:F (us.deps.map (upd g i z)) q) :
  HInv L sh Rs a w0 (vN.setIfInBounds i true) (upd g i z) (vl.put va.dst z) q:=by
 have xa:i<sh.length:=EO E;have H:i<vN.size:=by rw[W.size];exact(Yae.1 Q).1
 have U:∀j,(vN.setIfInBounds i true).getD j false=true->j≠i->vN.getD j false=true:=λj h I=>by
  exact ZiX
 have xg:∀j y n,sh[j]? = some y->L[j]? = some n->vN.getD j false=true->i∉y.bef:=λj y n O m J K=>by
  have:=Em S W.closed j y n O m (W.closed j n m J) i K;rw[u]at this;cases this
 refine⟨by simp[W.size],λj n m J e v=>?_,λt M=>?_,?_,?_,λj n d I m J T=>?_,λt M=>?_,λj y G O r J=>?_,W.ext.trans b⟩
 .by_cases p:j=i
  .subst p
   have:n=va:=Yag (m.symm.trans Q);subst this;exact getD_set_true (o e v)
  .exact getD_set_true (W.closed j n m (U j J p) e v)
 .rw [getD_set_ne false ZbD];exact W.tail t M
 .unfold Act.put;split<;>simp[W.asz]
 .unfold Act.put;split<;>simp[W.adef]
 .by_cases p:j=i
  .subst p
   have:n=va:=Yag (m.symm.trans Q);subst this
   have xd:d<vl.tmps.size:=by
    rw[W.asz];have B:=Yaj.1 N n (YaE (i:=j) (by rw[YaJ];simp[xa,m]));simp only[T,Ybb]at B;exact B
   simp[Act.put,T,upd,xd]
  .have xc:=U j J p
   have Y:va.dst≠some d:=λe=>p (Gw S I xa m Q T e);rw[show upd g i z j=g j by simp[upd,p],<-W.a1 j n d I m xc T];unfold Act.put;split
   .rename_i l f
    have:l≠d:=λe=>Y (by rw[f,e]);simp[YaP this]
   .rfl
 .have B:va.dst≠some t:=by
   refine M i va xa Q ?_;simp[H]
  rw[<-W.a2 t λj n I m J=>M j n I m (getD_set_true J)];unfold Act.put;split
  .rename_i l f
   have:l≠t:=λe=>B (by rw[f,e]);simp[YaP this]
  .rfl
 .by_cases p:j=i
  .subst p
   have Z:y=us:=Yag (O.symm.trans E);have s:G=F:=Yag (r.symm.trans hF);subst Z;subst s;exact R
  .have xc:=U j J p
   have x:j<L.length:=Yaq (EO O) (DG S);have m:L[j]? = some L[j]:=Yac x;have xh:=xg j y _ O m xc
   have xe:y.deps.map (upd g i z)=y.deps.map g:=by
    refine YaX λk C=>?_;have A:=(CO S m).2.1 y O;simp only[Fm,Yam]at A;have B:=Yaj.1 A.1.1.1.1.2 k C;simp only[Ybg,YcD]at B
    have xf:k≠i:=by
     rintro rfl;rcases B with B | B
     .exact p B.symm
     .exact xh ZeX
    simp[upd,xf]
   rw[xe];exact xb G (YaE r) _ _ _ b (W.facts j y G O r xc)
theorem eval_operands(K:Ed L sh=true){g:Nat->Value}(M:HInv L sh Rs a w0 vN g vl w)(q:L[n]? = some va)(E:sh[n]? = some us)
  (V:vN.getD n false=false) (h:∀e∈Bz va,vN.getD e false=true):∀y∈va.op.operands,vl.eval y=Qg a g us.env y:=by
 intro y O
 cases y with
 |tmp t=>
  show vl.tmps.getD t undef=_
  cases W:us.env.find? (λp=>p.1==t)with
  |some p=>
   have G:p∈us.env:=Ybl W;have r:p.1=t:=by simpa using YcE W
   obtain⟨A,B,I,N,Q⟩:=HG K E q G;have J:=Em K M.closed n us va E q h p.2 A;have:=M.a1 p.2 I p.1 B N J Q;simp only[Qg,W];rw[r]at this;simp[this]
  |none=>
   simp only[Qg,W];have A:=(CO K q).2.1 us E;simp only[Fm,Yam]at A;have B:=Yaj.1 A.1.1.2 (.tmp t) (by simpa using O);simp only[Ybg]at B;rcases B with B | B
   .exfalso
    have:t∈us.env.map (·.1):=Zjl
    obtain⟨p,G,r⟩:=YaA.1 this;have:=Yce.1 W p G;simp[r]at this
   .have:vl.tmps[t]? = a.tmps[t]?:=by
     refine M.a2 t λj S F R J X=>?_;have C:=Yaj.1 B j (YaZ.2 F);rw[R]at C;simp[X]at C;rcases C with C | C
     .subst C;rw[V]at J;cases J
     .cases Z:sh[j]? with
      |none=>rw[Ycm]at Z;omega
      |some Y=>
       have:=Em K M.closed j Y S Z R (M.closed j S R J) n (by simpa[Du,Z]using C);rw[V]at this;cases this
    rw[Yay,Yay,this]
 |const v=>rfl
 |global b=>rfl
 |func f=>rfl
theorem wanted_of(K:Ed L sh=true){g:Nat->Value}(O:HInv L sh Rs a w0 vN g vl w)(q:L[n]? = some va)(E:sh[n]? = some us)
  (h:∀e∈Bz va,vN.getD e false=true):Region.wanted va (yielded L.toArray vl.tmps)=Fn va g:=by
 unfold Region.wanted Fn
 cases I:va.guard with
 |none=>rfl
 |some Q=>
  obtain⟨j,b⟩:=Q;have A:=(CO K q).2.1 us E;simp only[Fm,Yam]at A;have B:=A.1.2;rw[I]at B;simp only[Yam,Ybb]at B;obtain⟨⟨C,S⟩,F⟩:=B;have J:=Em K O.closed n us va E q h j ZcY;split at F
  .rename_i G M
   obtain⟨d,N⟩:=Ycw.1 F;have:=O.a1 j G d S M J N;unfold yielded;simp only[YbE,M,Yex,N,this];cases g j<;>simp
  .cases F
theorem opStep_wp{R:Value->World->Prop}{K:Act->World->Prop}(T:BN va.op=true)(q:∀y∈va.op.operands,vl.eval y=uw y)
  (h:OpStep P va uw w R) (C:∀v F,R v F->K (vl.put va.dst v) F):va.wp P vl w K vR:=by
 unfold Oper.wp
 have Y:∀B b,va.op≠.select B b:=by
  intro B b e;rw[e]at T;cases T
 rw[execOp_congr va Y q];unfold OpStep at h;split at h
 .rename_i v F X;rw[X];exact C _ _ h
 .rename_i F X;rw[X];exact C _ _ h
 .rename_i f args F X
  rw[X];exact Calls.mono h λe G ⟨v,A,E⟩=>by subst A;exact C _ _ E
 .exact h.elim
theorem KY(h:n<vN.size):vN.getD n true=vN.getD n false:=by simp[h]
theorem Nk(B:Ed L sh=true)(t:vN.size=L.length){i:Nat}(K:i∈Region.ready .any L.toArray vN) :
  vN.getD i false=false/\∃o,L[i]? = some o/\∀e∈Bz o,vN.getD e false=true:=by
 obtain⟨A,o,q,w⟩:=mem_ready.1 K;have M:L[i]? = some o:=by simpa using q
 have j:i<vN.size:=by rw[t];exact(Yae.1 M).1
 refine⟨by rw[<-KY j];exact A,o,M,λe b=>?_⟩;obtain⟨C,z,F,rfl⟩:=JR b;exact w C z F
theorem La(B:Ed L sh=true)(t:vN.size=L.length):∀(i:Nat),i<L.length->vN.getD i false=false->∃k,k<=i/\k∈Region.ready .any L.toArray vN:=by
 intro i
 induction i using Nat.strongRecOn with
 |_ i u=>
  intro K G;by_cases h:∃e,e<i/\vN.getD e false=false
  .obtain ⟨e,b,S⟩:=h
   obtain⟨k,C,X⟩:=u e b ZbD S;exact⟨k,by omega,X⟩
  .refine ⟨i, Yah _, mem_ready.2 ⟨by rw [KY ZbD]; exact G, L[i], by simp [K], λe b F=>?_⟩⟩
   have Q:=(CO B (Yac K)).1 e.on (LN b F)
   cases A:vN.getD e.on false with
   |true=>rfl
   |false=>exact absurd ⟨e.on,Q,A⟩ h
def Jv(U:Array Bool):Nat:=(U.toList.filter (!·)).length
theorem MK{i:Nat}(K:i<vN.size)(h:vN.getD i false=false):Jv (vN.setIfInBounds i true)+1=Jv vN:=by
 obtain⟨l⟩:=vN;simp only[Jv,Yba,Ydb]at *
 have A:l[i]? = some false:=by
  simp[K]at h;simp[Yac K,h]
 clear h
 induction l generalizing i with
 |nil=>simp at K
 |cons b l u=>
  cases i with
  |zero=>
   simp at A;subst A;simp
  |succ i=>
   simp only[Yby];have:=u (i:=i) (by simpa using K) Zdn;cases b<;>simp_all
theorem Se(K:n<vN.size)(h:vN.getD n false=false):0<Jv vN:=by
 have:=MK K h;omega
theorem KG(F:Ed L sh=true)(t:vN.size=L.length)(I:∀j va,L[j]? = some va->vN.getD j false=true->∀e∈Bz va,vN.getD e false=true)
 (M:sh.length<=n) (q:L[n]? = some va) (h:∀e∈Bz va,vN.getD e false=true):∀j,j<n->vN.getD j false=true:=by
 induction n using Nat.strongRecOn generalizing va with
 |_ n u=>
  intro j C;obtain⟨Q,_,T⟩:=CO F q;have A:=T (Ycm.2 M);have B:=Yaj.1 A j (YaZ.2 C);obtain⟨e,b,G⟩:=Yci.1 B;simp only[Ybg,YcD]at G;rcases G with rfl | G
  .exact h e b
  .have N:=Q e b
   have d:e<L.length:=by have:=(Yae.1 q).1;omega
   have J:L[e]? = some L[e]:=Yac d;split at G
   .rename_i E
    have O:sh[e]? = some sh[e]:=Yac E;exact Em F I e _ _ O J (I e _ J (h e b)) j (by simpa[Du,O]using G)
   .rename_i E
    exact u e N ZbD J (I e _ J (h e b)) j Zet
theorem Nh(I:Ed L sh=true):∀(f m:Nat) (U:Array Bool) (M:Act) (N:World),sh.length<=m->f+m=L.length->U.size=L.length ->
  (∀j,j<m->U.getD j false=true)->(∀j,m<=j->U.getD j false=false)->wpList P L.toArray vR (L.drop m) M N->wpAny P .any L.toArray vR f U M N:=by
 intro f
 induction f with
 |zero=>
  intro m U M N G t R A B h;have r:L.length<=m:=by omega
  rw[YaL r]at h;refine⟨?_,h⟩
  cases X:Region.ready .any L.toArray U with
  |nil=>rfl
  |cons x O=>
   obtain⟨E,o,q,_⟩:=Nk I R (i:=x) (by rw[X];simp);have:=A x ZhC;rw[E]at this;cases this
 |succ f u=>
  intro m U M N G t R A B h;have r:m<L.length:=by omega
  refine⟨λc=>?_,λi K=>?_⟩
  .obtain ⟨k,_,C⟩:=La I R m r (B m (Yah _))
   rw[c]at C;cases C
  .obtain ⟨l,o,q,Z⟩:=Nk I R K
   have n:=(Yae.1 q).1
   have v:m<=i:=by
    rcases YaG i m with Q | hge
    .have:=A i Q;rw[l]at this;cases this
    .exact hge
   have V:∀j Y,L[j]? = some Y->U.getD j false=true->∀e∈Bz Y,U.getD e false=true:=λj Y W J e b=>by
    have s:j<m:=by
     rcases YaG j m with Q | hge
     .exact Q
     .rw [B j hge]at J;cases J
    exact A e (Yej ((CO I W).1 e b) s)
   have y:i=m:=by
    rcases YaG m i with Q | hge
    .have:=KG I R V ZbD q Z m Q
     rw[B m (Yah _)]at this;cases this
    .omega
   subst y;rw[Ycn r]at h;have heq:L[i]=o:=by rw[Yac r]at q;exact Yag q
   rw[heq]at h
   have S:∀a w,wpList P L.toArray vR (L.drop (i+1)) a w->wpAny P .any L.toArray vR f (U.setIfInBounds i true) a w:=λa w d=>
    u (i + 1) _ a w ZbD ZbD Zeu (fun j F => by
     by_cases g:j=i
     .subst g;simp[R,r]
     .exact getD_set_true (A j ZbD)) (λj F=>by rw[getD_set_ne false ZbD];exact B j ZbD) d
   unfold wpOp;have p:L.toArray[i]? = some o:=by simpa using q
   rw[p];simp only[wpList]at h ⊢;split
   .rename_i d;rw[Yan d]at h;exact h.imp (Oper.wp_mono S) id
   .rename_i d;rw[Yai d]at h;exact S _ _ h
theorem Hk{g:Nat->Value}:∀(l:List Oper) (i:Nat) (b:Act),(∀(j k:Nat) (o w:Oper) (d:Nat),l[j]? = some o->l[k]? = some w->o.dst=some d->w.dst=some d->j=k)->(∀o∈l,∀d,o.dst=some d->d<b.tmps.size) ->
  (FA g l i b).tmps.size=b.tmps.size/\(FA g l i b).defers=b.defers /\
  (∀(j:Nat) (o:Oper) (d:Nat),l[j]? = some o->o.dst=some d->(FA g l i b).tmps[d]? = some (g (i+j))) /\
  (∀t:Nat,(∀(j:Nat) (o:Oper),l[j]? = some o->o.dst≠some t)->(FA g l i b).tmps[t]? = b.tmps[t]?)
 |[],i,b,_,_=>⟨rfl,rfl,λj o d h=>by simp at h,λt _=>rfl⟩
 |o::l,i,b,I,F=>by
  have Y:(b.put o.dst (g i)).tmps.size=b.tmps.size:=by unfold Act.put;split<;>simp
  obtain⟨A,B,E,S⟩:=Hk (g:=g) l (i+1) (b.put o.dst (g i)) (λj k N Q d G C Z s=>by
   have:=I (j+1) (k+1) N Q d Zet ZcY Z s;omega) (λw J d K=>by rw[Y];exact F w (by simp[J]) d K)
  refine⟨A.trans Y,B.trans (by unfold Act.put;split<;>rfl),λj w d G R=>?_,λt M=>?_⟩
  .cases j with
   |zero=>
    simp at G;subst G;show(FA g l (i+1) (b.put o.dst (g i))).tmps[d]? = _
    rw[S d λk Q C e=>by
     have:=I 0 (k+1) o Q d rfl ZcY R e;omega]
    have:=F o ZbS d R;simp[Act.put,R,this]
   |succ j=>
    have:=E j w d Zet R;rw[show i+(j+1)=i+1+j by omega];exact this
  .show (FA g l (i+1) (b.put o.dst (g i))).tmps[t]? = _
   rw[S t λk Q C=>M (k+1) Q ZcY];have c:=M 0 o rfl;unfold Act.put;split
   .rename_i O K
    have:O≠t:=λe=>c (by rw[K,e]);exact Zjm
   .rfl
theorem NH{x y:Act}(h:x.tmps=y.tmps)(b:x.defers=y.defers):x=y:=by
 cases x;cases y;simp_all
theorem head_run(z:Ed L sh=true)(W:HH L sh.length a.tmps.size=true)
  (xA:∀F∈Rs,∀H w1 w2,Ext w1 w2->F H w1->F H w2) (xp:StepsAt P sh Rs a w0 0 L sh Rs)
  (xt:∀g N,Ext w0 N->(∀(j:Nat) (y:Shape) (F:Fact),sh[j]? = some y->Rs[j]? = some F->F (y.deps.map g) N)->wpList P L.toArray vR (L.drop sh.length) (FA g (L.take sh.length) 0 a) N) :
  ∀(f:Nat) (U:Array Bool) (g:Nat->Value) (a':Act) (N:World),Jv U=f->HInv L sh Rs a w0 U g a' N->wpAny P .any L.toArray vR f U a' N:=by
 obtain⟨xb,xn⟩:=xp.at;intro f
 induction f with
 |zero=>
  intro U g a' N r xa
  have xe:∀j,j<L.length->U.getD j false=true:=λj R=>Zac
  refine Nh z 0 L.length U a' N (DG z) ZbD xa.size xe (λj R=>by simp[xa.size,R]) ?_
  exact Zad
 |succ f ih=>
  intro U g a' N r xa;by_cases xk:∀j,j<sh.length->U.getD j false=true
  .have xI:f+1+sh.length=L.length:=Zae
   refine Nh z (f+1) sh.length U a' N (Yah _) xI xa.size xk xa.tail ?_;have:=xt g N xa.ext λj y F O hF=>xa.facts j y F O hF (xk j (EO O))
   have xG:FA g (L.take sh.length) 0 a=a':=Zaf
   rw[xG]at this;exact this
  .have xH:∃j,j<sh.length/\U.getD j false=false:=Ydh λxm=>xk λj R=>Zag
   obtain⟨j0,xL,xs⟩:=xH;refine⟨λc=>?_,λi K=>?_⟩
   .obtain ⟨k,_,C⟩:=La z xa.size j0 (Yaq xL (DG z)) xs
    rw[c]at C;cases C
   .obtain ⟨xg,o,m,xf⟩:=Nk z xa.size K
    have xr:i<sh.length:=Zah
    have E:sh[i]? = some sh[i]:=Yac xr;obtain⟨F,hF,T⟩:=xn i o _ m E;rw[YaH]at T;have xo:i<U.size:=ZiU
    have xm:=(CO z m).2.1 _ E;simp only[Fm,Yam]at xm
    obtain⟨xu,xv⟩:=T g N (Qg a g sh[i].env) xa.ext (λx xw j R y G O hG=>by
      have:x=sh[i]:=Yag (xw.symm.trans E);subst this;exact xa.facts j y G O hG (Em z xa.closed i _ o E m xf j R))
     (Sk λp J=>by
      obtain⟨A,B,w,xc,xd⟩:=HG z E m J
      cases xi:sh[i].env.find? (λq=>q.1==p.1)with
      |none=>have:=Yce.1 xi p J;simp at this
      |some q=>
       have Y:=Ybl xi;have xM:q.1=p.1:=by simpa using YcE xi
       obtain⟨_,S,o2,xx,xq⟩:=HG z E m Y;rw[xM]at xq;have:=Gw z S B xx xc xq xd;simp only[Qg,xi,this])
     (λt M=>by
      have:sh[i].env.find? (λq=>q.1==t)=none:=Yce.2 λp J=>by simpa using M p J
      simp only[Qg,this])
     (λ_=>rfl) (λ_=>rfl)
    have xN:=wanted_of z xa m E xf
    have xJ:∀v w2 b,(a'.put o.dst v)=b->Ext N w2->F (sh[i].deps.map (upd g i v)) w2->wpAny P .any L.toArray vR f (U.setIfInBounds i true) b w2:=λv w2 b I V xy=>by
     subst I;refine ih _ (upd g i v) _ _ ?_ (step_inv z W xA xa m E hF xg xf V xy);have:=MK xo xg;omega
    unfold wpOp;have xx:L.toArray[i]? = some o:=by simpa using m
    rw[xx];show if Region.wanted o (yielded L.toArray a'.tmps)=true then _ else _
    rw[xN];split
    .rename_i hw
     exact Zjn
    .rename_i hw
     exact xJ undef N _ rfl (Ext.refl _) (xv (by simpa using hw))
theorem wp_region_ext{L:List Oper}{a:Act}(x:P.follows .mixedOrders=true)(sh:List Shape)(Rs:List Fact)(B:Ed L sh=true)(e:HH L sh.length a.tmps.size=true)
  (E:∀F∈Rs,∀K C J,Ext C J->F K C->F K J) (l:StepsAt P sh Rs a w.drew 0 L sh Rs)
  (r:∀g N,Ext w.drew N->(∀(j:Nat) (y:Shape) (F:Fact),sh[j]? = some y->Rs[j]? = some F->F (y.deps.map g) N)->wpList P L.toArray vR (L.drop sh.length) (FA g (L.take sh.length) 0 a) N) :
  (Code.region n L.toArray true).wp P vR a w:=by
 refine wp_region_any x ?_;have M:Jv (Array.replicate L.toArray.size false)=L.toArray.size:=by simp[Jv,List.filter_replicate]
 refine head_run B e E l r _ _ (λ_=>undef) a _ M ?_
 have A:∀j,(Array.replicate L.toArray.size false).getD j false=false:=λj=>Zai
 exact⟨by simp,(λj o _ h=>by rw[A]at h;cases h),λt _=>A t,rfl,rfl,(λj o d _ _ h=>by rw[A]at h;cases h),λt _=>rfl,(λj y F _ _ h=>by rw[A]at h;cases h),Ext.refl _⟩
end
abbrev VFact:=Value->World->Prop
def OpsKnown(y:List VFact)(i:Operand->Value)(w:World):List (Nat×Nat)->Prop
 |[]=>True
 |(t,j)::r=>(∀F,y[j]? = some F->F (i (.tmp t)) w)/\OpsKnown y i w r
def UStep(P:Program)(y:List VFact)(a:Act)(Q:World)(o:Oper)(env:List (Nat×Nat))(F:VFact):Prop:=
 ∀(w:World) (i:Operand->Value),Ext Q w->OpsKnown y i w env ->
  (∀t,(∀p∈env,p.1≠t)->i (.tmp t)=a.tmps.getD t undef)->(∀v,i (.const v)=v)->(∀f,i (.func f)=.func (.func f) #[] #[]) ->
  match o.guard with
  |none=>OpStep P o i w λv N=>Ext w N/\F v N
  |some (j,b)=>∀A,(∀G,y[j]? = some G->G A w)->(A=.bool b->OpStep P o i w λv N=>Ext w N/\F v N)/\(A≠.bool b->F undef w)
def USteps(P:Program)(y:List VFact)(a:Act)(Q:World):List Oper->List (List (Nat×Nat))->List VFact->Prop
 |o::L,x::S,F::T=>UStep P y a Q o x F/\USteps P y a Q L S T
 |_,[],[]=>True
 |_,_,_=>False
theorem USteps.cons{y:List VFact}{a:Act}{L:List Oper}{x:List (Nat×Nat)}{S:List (List (Nat×Nat))}{F:VFact}{T:List VFact}(h:UStep P y a w va x F)(Y:USteps P y a w L S T) :
  USteps P y a w (va::L) (x::S) (F::T):=⟨h,Y⟩
theorem USteps.nil{y:List VFact}{a:Act}{L:List Oper}:USteps P y a w L [] []:=by cases L<;>trivial
def Gg:Nat->List (List (Nat×Nat))->List (List Nat)->List Shape
 |i,e::m,b::u=>⟨e,b,[i]⟩::Gg (i+1) m u
 |_,_,_=>[]
theorem KJ:∀{m:List (List (Nat×Nat))} {u:List (List Nat)} {i k:Nat} {x:Shape},(Gg i m u)[k]? = some x->x.deps=[i+k]/\m[k]? = some x.env
 |[],_,i,k,x,h=>by simp[Gg]at h
 |_::_,[],i,k,x,h=>by simp[Gg]at h
 |e::m,b::u,i,0,x,h=>by
  simp only[Gg,List.getElem?_cons_zero,Ydc]at h;subst h;exact⟨rfl,rfl⟩
 |e::m,b::u,i,k+1,x,h=>by
  simp only[Gg,YcR]at h;obtain⟨A,B⟩:=KJ h;exact⟨by rw[A];congr 1;omega,by simpa using B⟩
def unF(F:VFact):Fact:=λK w=>match K with | [v]=>F v w | _=>False
theorem usteps_steps{P:Program}{a:Act}{w0:World}{Fs:List VFact}{sh:List Shape}{L0:List Oper}(f:Ed L0 sh=true)(xq:∀(k:Nat) (x:Shape),sh[k]? = some x->x.deps=[k]) :
  ∀{L:List Oper} {X:List (List (Nat×Nat))} {bs:List (List Nat)} {T:List VFact} {i:Nat},(∀k,L[k]? = L0[i+k]?)->(∀k,(Gg i X bs)[k]? = sh[i+k]?)->X.length=bs.length->USteps P Fs a w0 L X T ->
   StepsAt P sh (Fs.map unF) a w0 i L (Gg i X bs) (T.map unF)
 |L,[],[],[],i,_,_,_,_=>by cases L<;>exact trivial
 |L,[],[],_::_,i,_,_,_,h=>by cases L<;>exact h.elim
 |L,[],_::_,T,i,_,_,M,h=>by simp at M
 |L,_::_,[],T,i,_,_,M,h=>by simp at M
 |[],_::_,_::_,T,i,_,_,_,h=>by cases T<;>exact h.elim
 |_::_,_::_,_::_,[],i,_,_,_,h=>h.elim
 |o::L,e::X,b::bs,F::T,i,u,z,M,h=>Zaj
theorem wp_region_u{L:List Oper}(C:P.follows .mixedOrders=true)(m:List (List (Nat×Nat)))(R:List (List Nat))(y:List VFact)
  (q:(m.length==R.length&&m.length==y.length)=true) (I:Ed L (Gg 0 m R)=true) (B:HH L m.length vl.tmps.size=true)
  (o:∀F∈y,∀v M Q,Ext M Q->F v M->F v Q) (l:USteps P y vl w.drew L m y)
  (r:∀(g:Nat->Value) (N:World),Ext w.drew N->(∀(j:Nat) (F:VFact),y[j]? = some F->F (g j) N)->wpList P L.toArray vR (L.drop m.length) (FA g (L.take m.length) 0 vl) N) :
  (Code.region n L.toArray true).wp P vR vl w:=Zak
def Stab(F:VFact):Prop:=∀v j J,Ext j J->F v j->F v J
def StabAll:List VFact->Prop
 |[]=>True
 |F::r=>Stab F/\StabAll r
theorem StabAll.cons{F:VFact}{r:List VFact}(h:Stab F)(Y:StabAll r):StabAll (F::r):=⟨h,Y⟩
theorem StabAll.nil:StabAll []:=trivial
theorem StabAll.mem:∀{y:List VFact},StabAll y->∀F∈y,Stab F
 |[],_,F,h=>by cases h
 |G::r,h,F,hF=>Zal
theorem Stab.eq(u:Value):Stab (λv _=>v=u):=λ_ _ _ _ h=>h
variable{uN:VFact}
theorem AD{v:Value}(h:(execOp uw va).run P w=.ok (.value v) w)(hF:uN v w):OpStep P va uw w λv N=>Ext w N/\uN v N:=by
 unfold OpStep;rw[h];exact⟨Ext.refl _,hF⟩
theorem XB{v:Value}(h:(execOp uw va).run P w=.ok (.value v) q)(V:Ext w q)(hF:uN v q):OpStep P va uw w λv q=>Ext w q/\uN v q:=by
 unfold OpStep;rw[h];exact⟨V,hF⟩
theorem CF{f:FuncId}{R:Ending->World->Prop}(h:(execOp uw va).run P w=.ok (.enter f vB) w)(I:Calls P f vB w R)
  (E:∀e N,R e N->∃v,e=.returned v/\Ext w N/\uN v N):OpStep P va uw w λv N=>Ext w N/\uN v N:=by
 unfold OpStep;rw[h];exact I.mono E
theorem wp_region_v{L:List Oper}(x:P.follows .mixedOrders=true)(m:List (List (Nat×Nat)))(u:List (List Nat))(y:List VFact)
  (q:(m.length==u.length&&m.length==y.length)=true) (A:Ed L (Gg 0 m u)=true) (e:HH L m.length vl.tmps.size=true) (stab:StabAll y) (steps:USteps P y vl w.drew L m y)
  (fin:∀(g:Nat->Value) (N:World),Ext w.drew N->(∀(j:Nat) (F:VFact),y[j]? = some F->F (g j) N)->wpList P L.toArray vR (L.drop m.length) (FA g (L.take m.length) 0 vl) N) :
  (Code.region n L.toArray true).wp P vR vl w:=
 wp_region_u x m u y q A e (λF hF=>stab.mem F hF) steps fin
def BB:Nat:=4294967296
theorem CQ:0<BB:=by decide
theorem BF:BB=4294967296:=rfl
theorem TX:1<BB:=by decide
def val:List Nat->Nat
 |[]=>0
 |x::l=>x+BB*val l
def As(n:Nat):List Nat:=if h:n=0 then[]else(n%BB)::As (n/BB)
termination_by n
decreasing_by exact Ydq (Ybz h) ZbH
def BM(l:List Nat):Prop:=∀x∈l,x<BB
theorem BL:As 0=[]:=by rw[As];simp
theorem Fh(h:n≠0):As n=(n%BB)::As (n/BB):=by rw[As];simp[h]
theorem AJ(n:Nat):val (As n)=n:=by
 induction n using Nat.strongRecOn with
 |_ n u=>
  by_cases h:n=0
  .subst h;rw[BL];rfl
  .rw [Fh h]
   show n%BB+BB*val (As (n/BB))=n;rw[u (n/BB) (Ydq (Ybz h) ZbH)];exact YcF n BB
theorem BG(n:Nat):BM (As n):=by
 induction n using Nat.strongRecOn with
 |_ n u=>
  by_cases h:n=0
  .subst h;rw[BL];intro x E;cases E
  .rw [Fh h]
   intro x E;rcases YaK.1 E with rfl | E
   .exact YaT _ CQ
   .exact u (n/BB) (Ydq (Ybz h) ZbH) x E
theorem Iv(l m:List Nat):val (l++m)=val l+BB^l.length*val m:=by
 induction l with
 |nil=>simp[val]
 |cons x l u=>
  simp only[Ycy,val,u,Yav,Ybq];rw[YaD,YbM,YaM (BB^l.length) BB,YaY]
theorem Eg(h:BM l):val l<BB^l.length:=by
 induction l with
 |nil=>simp[val]
 |cons x l u=>
  have A:=h x ZbS;have B:=u λy O=>h y (by simp[O]);simp only[val,Yav,Ybq];have L:BB*(val l+1)<=BB*BB^l.length:=Yas _ B;rw[YaD,YaM BB (BB^l.length)]at L;omega
def Ej:List Nat->List Nat
 |[]=>[]
 |x::l=>match Ej l with
  |[]=>if x=0 then[]else[x]
  |y::r=>x::y::r
theorem A2t(l:List Nat):val (Ej l)=val l:=by
 induction l with
 |nil=>rfl
 |cons x l u=>
  simp only[Ej];split
  .rename_i h
   rw[h]at u;have u:val l=0:=by rw[<-u];rfl
   split
   .subst x;simp[val,u]
   .simp [val,u]
  .rename_i y r h
   rw[h]at u;show x+BB*val (y::r)=x+BB*val l;rw[u]
theorem Bn(h:BM l):Ej l=As (val l):=by
 induction l with
 |nil=>simp[Ej,val,BL]
 |cons x l u=>
  have E:=h x ZbS;have u:=u λy O=>h y (by simp[O]);have B:(x+BB*val l)/BB=val l:=by rw[Nat.add_mul_div_left _ _ CQ,YbI E];omega
  have F:(x+BB*val l)%BB=x:=by rw[Nat.add_mul_mod_self_left,YaS E]
  simp only[Ej,val];split
  .rename_i c
   have C:val l=0:=by rw[<-A2t,c];rfl
   split
   .subst x;simp[C,BL]
   .rename_i G
    rw[Fh ZbD,B,F,C,BL]
  .rename_i y r c
   have G:x+BB*val l≠0:=by
    intro e
    have C:val l=0:=by
     have:=CQ;rcases Yaz (val l)with A | A
     .exact A
     .have:=YcS this A;omega
    rw[C,BL,c]at u;cases u
   rw[Fh G,B,F,<-u,c]
theorem Qa(l:List Nat):Ej (l++[0])=Ej l:=by
 induction l with
 |nil=>simp[Ej]
 |cons x l u=>simp only[Ycy,Ej,u]
theorem ZK(h:n≠0):Ej (l++[n])=l++[n]:=by
 induction l with
 |nil=>simp[Ej,h]
 |cons y l u=>
  simp only[Ycy,Ej,u];cases l<;>simp
theorem HZ(l:List Nat):(Ej l).length<=l.length:=by
 induction l with
 |nil=>simp[Ej]
 |cons x l u=>
  simp only[Ej];split
  .split<;>simp
  .rename_i y r h;rw[h]at u;simpa using u
theorem QS{k:Nat}(C:k<l.length)(c:l[k]=0):Ej (l.take (k+1))=Ej (l.take k):=by
 rw[Ycj C,c,Qa]
theorem Mr{k:Nat}(C:k<l.length)(c:l[k]≠0):Ej (l.take (k+1))=l.take (k+1):=by
 rw[Ycj C,ZK c]
def Words(w:World)(v:Value)(l:List Nat):Prop:=
 ∃(A:Option Addr) (c:Nat),v=.slice A l.length c/\l.length<=c/\c<=9223372036854775807/\BM l /\
  (0<l.length->∃(b o:Nat) (h:Array Value) (S:Nat×Nat),A=some ⟨b,o,none⟩/\w.heap[b]? = some (.cells h 335 S)/\∀i,(K:i<l.length)->h[o+i]? = some (.int .u32 (l[i]:Nat)))
theorem Bw{o:Obj}(h:w.heap[n]? = some o):n<w.heap.size:=(Ybx.1 h).1
theorem Words.ext{v:Value}(h:Words w v l)(B:Ext w q):Words q v l:=by
 obtain⟨A,c,r,I,x,Y,E⟩:=h;refine⟨A,c,r,I,x,Y,λJ=>?_⟩;obtain⟨b,o,C,S,G,F,K⟩:=E J;exact⟨b,o,C,S,G,(B.block (Bw F)).trans F,K⟩
theorem Words.small{v:Value}(h:Words w v l):BM l:=by
 obtain⟨_,_,_,_,_,Y,_⟩:=h;exact Y
theorem Words.nil(w:World)(A:Option Addr)(c:Nat)(I:c<=9223372036854775807):Words w (.slice A 0 c) []:=⟨A,c,rfl,Yaw _,I,(λx E=>by cases E),(λh=>by cases h)⟩
theorem Dh{b o:Nat}{S:Nat×Nat}(h:w.heap[b]? = some (.cells vB t S)):w.cell? ⟨b,o,none⟩=vB[o]?:=by simp[World.cell?,h]
theorem Words.open_{v:Value}(h:Words w v l):∃(A:Option Addr) (c:Nat),v=.slice A l.length c/\l.length<=c/\c<=9223372036854775807 /\
  (0<l.length->∃(b o:Nat),A=some ⟨b,o,none⟩/\b<w.heap.size/\∀i,i<l.length->w.cell? ⟨b,o+i,none⟩=some (.int .u32 (l.getD i 0:Nat))):=by
 obtain⟨A,c,r,I,x,Y,E⟩:=h;refine⟨A,c,r,I,x,λJ=>?_⟩;obtain⟨b,o,B,S,C,F,K⟩:=E J;exact⟨b,o,C,Bw F,λi j=>by rw[Dh F,K i j];simp[j]⟩
theorem Words.take{c:Nat}(h:Words w (.slice ux l.length c) l){k:Nat}(C:k<=l.length):Words w (.slice ux k c) (l.take k):=by
 obtain⟨O,N,r,I,M,Y,E⟩:=h;injection r with A _ L
 subst A;subst L;have J:(l.take k).length=k:=by simp[C]
 refine⟨ux,c,by rw[J],by omega,M,λx E=>Y x (Ybr E),λG=>?_⟩;obtain⟨b,o,B,S,Q,F,K⟩:=E ZbD;exact⟨b,o,B,S,Q,F,λi R=>by rw[K i ZbD];simp⟩
def wv(l:List Nat):Array Value:=(l.map λx=>Value.int .u32 (x:Nat)).toArray
theorem A6Q(l:List Nat):(wv l).size=l.length:=by simp[wv]
theorem A4c(h:n<l.length):(wv l)[n]? = some (.int .u32 (l[n]:Nat)):=by simp[wv,h]
theorem Ea(h:n<l.length):(wv l)[n]? = some (.int .u32 (l.getD n 0:Nat)):=by simp[wv,h]
theorem Jo(l:List Nat)(i x:Nat):(wv l).setIfInBounds i (.int .u32 (x:Nat))=wv (l.set i x):=by simp[wv,List.map_set]
def Blk(w:World)(g:Nat)(t:TypeId)(h:Array Value):Prop:=w.heap[g]? = some (.cells h t (0,0))
theorem Blk.lt{g:Nat}(h:Blk w g t vB):g<w.heap.size:=Bw h
theorem Blk.cell{g:Nat}(h:Blk w g t vB)(i:Nat):w.cell? ⟨g,i,none⟩=vB[i]?:=Dh h
theorem Blk.frozen(h:Blk w n t vB)(i:Nat):w.frozen? ⟨n,i,none⟩=false:=by
 unfold Blk at h;simp[World.frozen?,h]
theorem Blk.new(w:World)(t:TypeId)(h:Array Value):Blk (w.alloc (.cells h t)) w.heap.size t h:=heap_alloc_new w _
theorem ES{b:Nat}(t:TypeId)(A:Array Value)(h:b=w.heap.size):Blk (w.alloc (.cells A t)) b t A:=h▸Blk.new w t A
theorem Blk.drew{g:Nat}(h:Blk w g t vB):Blk w.drew g t vB:=h
theorem Blk.alloc{g:Nat}(h:Blk w g t vB)(o:Obj):Blk (w.alloc o) g t vB:=(Below.heap_alloc w o g h.lt).trans h
theorem Blk.set{g:Nat}(h:Blk w g t vB)(i:Nat)(u:Value):Blk (w.setCell ⟨g,i,none⟩ u) g t (vB.setIfInBounds i u):=by
 unfold Blk at h ⊢;simp[World.setCell,YdH,h]
theorem Blk.far(h:Blk w n t vB){p:Addr}(G:n≠p.block)(u:Value):Blk (w.setCell p u) n t vB:=(Below.heap_setCell w p u n G).trans h
theorem Blk.ext{g:Nat}(h:Blk w g t vB)(b:Ext w q):Blk q g t vB:=(b.block h.lt).trans h
theorem CI{c:Nat}(h:Blk w n 335 (wv l))(Y:BM l)(I:l.length<=c)(x:c<=9223372036854775807):Words w (.slice (some ⟨n,0,none⟩) l.length c) l:=
 ⟨_,c,rfl,I,x,Y,λ_=>⟨n,0,_,_,rfl,h,λi K=>by rw[YaH];exact A4c K⟩⟩
def Ty(w:World)(b:Nat)(t:TypeId):Prop:=∃h S,w.heap[b]? = some (.cells h t S)
theorem Ty.ext{b:Nat}(h:Ty w b t)(A:Ext w q):Ty q b t:=by
 obtain⟨B,S,h⟩:=h;exact⟨B,S,(A.block (Bw h)).trans h⟩
theorem Ty.set{b:Nat}(h:Ty w b t)(p:Addr)(u:Value):Ty (w.setCell p u) b t:=by
 obtain⟨A,S,h⟩:=h;by_cases F:b=p.block
 .subst F
  exact⟨_,S,by simp[World.setCell,YdH,h];rfl⟩
 .exact ⟨A,S,(Below.heap_setCell w p u b F).trans h⟩
theorem Ty.new(w:World)(h:Array Value)(t:TypeId):Ty (w.alloc (.cells h t)) w.heap.size t:=⟨h,_,heap_alloc_new w _⟩
theorem Fu(A:Array Value)(t:TypeId)(h:n=w.heap.size):Ty (w.alloc (.cells A t)) n t:=h▸Ty.new w A t
theorem Ty.drew{b:Nat}(h:Ty w b t):Ty w.drew b t:=h
theorem Ty.alloc{b:Nat}(h:Ty w b t)(o:Obj):Ty (w.alloc o) b t:=h.ext ((Ext.refl _).alloc o)
theorem Blk.ty{g:Nat}(h:Blk w g t vB):Ty w g t:=⟨vB,_,h⟩
theorem Ext.set(h:Ext w q){p:Addr}(G:w.heap.size<=p.block)(u:Value):Ext w (q.setCell p u):=Below.setCell h G u
theorem Words.set{v:Value}(h:Words w v l){p:Addr}(M:Ty w p.block t)(G:t≠335)(u:Value):Words (w.setCell p u) v l:=by
 obtain⟨A,c,r,I,x,Y,E⟩:=h;refine⟨A,c,r,I,x,Y,λJ=>?_⟩;obtain⟨b,o,B,S,N,F,K⟩:=E J
 have O:b≠p.block:=by
  rintro rfl;obtain⟨L,R,C⟩:=M;rw[F]at C;injection C with C
  injection C with _ Q
  exact G Q.symm
 exact⟨b,o,B,S,N,(Below.heap_setCell w p u b O).trans F,K⟩
theorem Tf(h:n<l.length):val (l.take (n+1))=val (l.take n)+BB^n*l.getD n 0:=by
 rw[Ycj h,Iv];simp[val,h,Ybu (YbT h)]
theorem WY(h:l.length<=n):val (l.take (n+1))=val (l.take n)+BB^n*l.getD n 0:=by
 rw[Yap h,Yap ZbD];simp[h]
theorem Bg(l:List Nat)(k:Nat):val (l.take (k+1))=val (l.take k)+BB^k*l.getD k 0:=by
 rcases YaG k l.length with h | h
 .exact Tf h
 .exact WY h
theorem Dt:(l.set n b).take n=l.take n:=by
 rw[List.take_set,List.set_eq_of_length_le ZgN]
theorem Cp{k x:Nat}(h:k<l.length):(l.set k x).getD k 0=x:=by simp[h]
theorem Bd(h:BM l)(k:Nat):l.getD k 0<BB:=by
 rcases YaG k l.length with C | C
 .simp only[Yab,Yac C,Option.getD_some]
  exact h _ (Ybt C)
 .simp [C,CQ]
theorem Do(h:BM l)(k:Nat)(E:n<BB):BM (l.set k n):=λy O=>by
 rcases List.mem_or_eq_of_mem_set O with A | A
 .exact h y A
 .rw [A];exact E
theorem Cu(n:Nat):BM (List.replicate n 0):=λx E=>by
 rw[List.eq_of_mem_replicate E];exact CQ
theorem A2B(C:n<vo.length)(E:l.getD n 0=T)(O:f.getD n 0=m)(r:T<BB)(Z:m<BB)(I:b<=1)
  (h:val (vo.take n)+BB^n*b=val (l.take n)+val (f.take n)) :
  val ((vo.set n ((T+b+m)%BB)).take (n+1))+BB^(n+1)*((T+b+m)/BB)=val (l.take (n+1))+val (f.take (n+1))/\(T+b+m)/BB<=1:=by
 constructor
 .rw [Bg,Dt,Cp C,Bg l,Bg f,E,O]
  have e:=YcF (T+b+m) BB
  have s:BB^n*((T+b+m)%BB)+BB^(n+1)*((T+b+m)/BB)=BB^n*(T+b+m):=by
   rw[Ybq,YaY,<-YaD,e]
  have H:BB^n*(T+b+m)=BB^n*T+BB^n*b+BB^n*m:=by rw[YaD,YaD]
  omega
 .have:T+b+m<2*BB:=by omega
  have:=Ybw (show T+b+m<BB*2 by omega);omega
theorem Ei(v:Value)(l:List Nat)(w:World)(h:Words w v l) :
  Calls prog 287 #[v] w λe N=>∃M,e=.returned M/\Words N M (Ej l)/\Ext w N:=by
 obtain⟨A,c,rfl,I,J,E⟩:=h.open_;have H:=Af h;have Y:=Af h.small;clear h;have R:=Af E;clear E;obtain⟨n,f⟩:∃n,n=l.length:=⟨_,rfl⟩;rw[<-f]at I ⊢;have j:=Af f;clear f;go_enter func287,ntmps287;go_wp2;go_loop [3] (λt=>∃k:Nat,k<=n/\t=.int .i64 k/\Hid (Ej l=Ej (l.take k))) (λt=>(intOf t).toNat)
 case atStart=>exact Zjo
 case round=>
  exact Zam
theorem CA(n:Nat)(f:n<=70368744177664)(V A:IntKind)(W:World) :
  (Instr.makeSlice 107 (.int V (n:Int)) (.int A (n:Int))).run prog W=.ok (.slice (some ⟨W.heap.size,0,none⟩) n n) (W.alloc (.cells (wv (List.replicate n 0)) 335)):=by
 obtain⟨i,K,I,b,d⟩:=info_parts (show(Tryz.prog.info? 335).map (λi=>(i.zero,i.size,i.bytes))=some (some (.int .u32 0),1,4)by kernel_rfl);have F:(i.bytes:Int)*(n:Int)<=281474976710656:=by rw[d];omega
 have X:=run_make (P:=prog) W 107 335 i (.int .u32 0) underlying107 K I V A n n ZbD ZbD F ZbD;simp only[YdE]at X;rw[X]
 have:madeCells (Value.int .u32 0).cells (n*i.size)=wv (List.replicate n 0):=by
  apply Array.ext';rw[b,YbB];show(madeCells #[Value.int .u32 0] n).toList=_;rw[toList_madeCells_one];simp[wv]
 rw[this]
def Acg(w wr:World)(V A r:List Nat)(n k Q:Nat):Prop:=
 r.length=n+1/\BM r/\Blk wr w.heap.size 335 (wv r)/\val (r.take k)+BB^k*Q=val (V.take k)+val (A.take k)/\Ext w wr
def DifRel(w wr:World)(V A r:List Nat)(n k Q:Nat):Prop:=
 r.length=n/\BM r/\Blk wr w.heap.size 335 (wv r)/\val (r.take k)+val (A.take k)=val (V.take k)+BB^k*Q/\Ext w wr
theorem DifRel.step{V M r:List Nat}{n k Q x y:Nat}(h:DifRel w q V M r n k Q)(C:k<n)(E:V.getD k 0=x)(O:M.getD k 0=y)(R:x<4294967296)(W:y<4294967296)(I:Q<=1){u z:Int}
  (K:u=(x+BB*(if x<Q+y then 1 else 0)-Q-y:Nat)) (o:z=(if x<Q+y then 1 else 0:Nat)) :
  ∃(N J:Nat) (l:List Nat),N<=n/\Value.int .i64 ((k:Int)+1)=.int .i64 N/\Value.int .u64 z=.int .u64 J/\J<=1/\Hid (DifRel w (q.setCell ⟨w.heap.size,k,none⟩ (.int .u32 u)) V M l n N J):=by
 obtain⟨A,B,L,S,G⟩:=h;have X:(if x<Q+y then 1 else 0:Nat)<=1:=by split<;>omega
 have g:x+BB*(if x<Q+y then 1 else 0)-Q-y<BB:=by rw[BF];split<;>omega
 have Y:x+BB*(if x<Q+y then 1 else 0)-Q-y+y+Q=x+BB*(if x<Q+y then 1 else 0):=by rw[BF];split<;>omega
 generalize (if x<Q+y then 1 else 0:Nat)=J at *;generalize x+BB*J-Q-y=F at *;refine⟨k+1,J,r.set k F,C,by simp,by rw[o],X,by simpa using A,Do B k g,?_,?_,Below.setCell G (Yah _) _⟩
 .rw [K,<-Jo]
  exact L.set k _
 .rw [Bg, Dt, Cp ZbD, Bg V, Bg M, E, O]
  have Z:BB^k*F+BB^k*y+BB^k*Q=BB^k*x+BB^(k+1)*J:=by
   rw[Ybq,YaY,<-YaD,<-YaD,<-YaD,Y]
  omega
theorem DifRel.close{V F r:List Nat}(h:DifRel w q V F r n n b)(f:V.length=n)(x:F.length<=n)(E:val F<=val V):val r=val V-val F:=by
 obtain⟨A,B,L,S,C⟩:=h;have R:V.take n=V:=Yap ZbD;have a:F.take n=F:=Yap x;have G:r.take n=r:=Yap ZbD;rw[R,a,G]at S;have Q:=Eg B;rw[A]at Q;rcases Yaz b with c | c
 .subst c;omega
 .have:BB^n*1<=BB^n*b:=Yas _ c
  omega
theorem Nc:∀{r:List Nat} {p q z:Nat},p<q->p<r.length->val ((r.set p z).take q)+BB^p*r.getD p 0=val (r.take q)+BB^p*z
 |[],p,q,z,_,h=>by simp at h
 |x::r,0,q+1,z,_,_=>by simp[val];omega
 |x::r,p+1,q+1,z,G,J=>by
  have u:=Nc (r:=r) (p:=p) (q:=q) (z:=z) ZbD ZcZ;simp only[Yby,Ybi,val,Ydm,Ybq];have Z:BB^p*BB*r.getD p 0=BB*(BB^p*r.getD p 0):=by rw[YaM (BB^p) BB,YaY]
  have s:BB^p*BB*z=BB*(BB^p*z):=by rw[YaM (BB^p) BB,YaY]
  rw[Z,s,YbM,<-YaD,u,YaD,YbM]
def A1b(w wr:World)(V A r:List Nat)(n m k:Nat):Prop:=
 r.length=n+m/\BM r/\Blk wr w.heap.size 335 (wv r)/\val (r.take (k+m))=val (V.take k)*val A/\Ext w wr
def MulIn(w wr:World)(V A r:List Nat)(n m k j x Q:Nat):Prop:=
 r.length=n+m/\BM r/\Blk wr w.heap.size 335 (wv r)/\val (r.take (k+m))+BB^(k+j)*Q=val (V.take k)*val A+BB^k*(x*val (A.take j))/\Ext w wr
theorem MulIn.drewN{w wr:World}{V A r:List Nat}{n m k j x Q:Nat}(h:MulIn w wr V A r n m k j x Q)(q:Nat):MulIn w (wr.drewN q) V A r n m k j x Q:=
 ⟨h.1,h.2.1,h.2.2.1,h.2.2.2.1,h.2.2.2.2.drewN q⟩
theorem FP{x y:Nat}(E:x<4294967296)(O:y<4294967296):x*y<=18446744065119617025:=
 Yat (YaW (Nat.le_of_lt_succ E) (Nat.le_of_lt_succ O)) ZbH
theorem MulIn.step{V M r:List Nat}{n m k j x y z Q:Nat}(h:MulIn w q V M r n m k j x Q)(a:j<m)(C:k<n)(O:M.getD j 0=y)(o:r.getD (k+j) 0=z)(W:x<4294967296)(Z:y<4294967296)(X:z<4294967296)(I:Q<4294967296){u v:Int}
  (K:u=((x*y+z+Q)%BB:Nat)) (G:v=((x*y+z+Q)/BB:Nat)) :
  ∃(b J:Nat) (N:List Nat),b<=m/\Value.int .i64 ((j:Int)+1)=.int .i64 b/\Value.int .u64 v=.int .u64 J/\J<4294967296/\Hid (MulIn w (q.setCell ⟨w.heap.size,k+j,none⟩ (.int .u32 u)) V M N n m k b x J):=by
 obtain⟨A,B,L,S,E⟩:=h;have F:=FP W Z;have l:(x*y+z+Q)/BB<4294967296:=by rw[BF];omega
 refine⟨j+1,(x*y+z+Q)/BB,r.set (k+j) ((x*y+z+Q)%BB),a,by simp,by rw[G],l,by simpa using A,Do B _ (YaT _ CQ),?_,?_,Below.setCell E (Yah _) _⟩
 .rw [K,<-Jo]
  exact L.set _ _
 .have e:=Nc (r:=r) (p:=k+j) (q:=k+m) (z:=(x*y+z+Q)%BB) ZbD ZbD
  rw[o]at e;have s:=YcF (x*y+z+Q) BB
  have H:BB^(k+j)*((x*y+z+Q)%BB)+BB^(k+(j+1))*((x*y+z+Q)/BB)=BB^(k+j)*(x*y+z+Q):=by
   rw[<-YbM,Ybq,YaY,<-YaD,s]
  have R:BB^(k+j)*(x*y+z+Q)=BB^(k+j)*(x*y)+BB^(k+j)*z+BB^(k+j)*Q:=by rw[YaD,YaD]
  have f:BB^k*(x*val (M.take (j+1)))=BB^k*(x*val (M.take j))+BB^(k+j)*(x*y):=by
   rw[Bg,O,YaD x,YaD (BB^k),YcG];congr 1;rw[YaY,Ybj x,Ybj (BB^j)]
  omega
theorem MulIn.close{V J r:List Nat}{n m k x Q:Nat}(h:MulIn w q V J r n m k m x Q)(C:k<n)(G:J.length=m)(E:V.getD k 0=x)(I:Q<4294967296) :
  A1b w (q.setCell ⟨w.heap.size,k+m,none⟩ (.int .u32 (Q:Int))) V J (r.set (k+m) Q) n m (k+1):=by
 obtain⟨A,B,L,S,F⟩:=h;have a:J.take m=J:=Yap ZbD;rw[a]at S;refine⟨by simpa using A,Do B _ (by rw[BF];exact I),?_,?_,Below.setCell F (Yah _) _⟩
 .rw [<-Jo];exact L.set _ _
 .rw [show k+1+m=k+m+1 by omega,Bg,Dt,Cp ZbD,S,Bg V,E,YbC,YaY]
theorem Xr(H vb:Value)(Z l:List Nat)(w:World)(p:Words w H Z)(G:Words w vb l)(f:Z.length<=4398046511104)(M:l.length<=4398046511104) :
  Calls prog 316 #[H,vb] w λe N=>∃g,e=.returned g/\Words N g (As (val Z*val l))/\Ext w N:=by
 obtain⟨A,c,rfl,J,xm,F⟩:=p.open_;obtain⟨B,d,rfl,K,xo,O⟩:=G.open_;have xg:=Af p.small;have xk:=Af G.small;clear p G;have hA:=Af F;have hB:=Af O;clear F O;obtain⟨n,t⟩:∃n,n=Z.length:=⟨_,rfl⟩;obtain⟨m,P⟩:∃m,m=l.length:=⟨_,rfl⟩;rw[<-t]at J f ⊢;rw[<-P]at K M ⊢;replace t:=Af t;replace P:=Af P;have xj:=λW=>CA (n+m) ZbD .i64 .i64 W;simp only[Ycq]at xj;go_enter func316,ntmps316;go_wp2;go_loopw [19] (λi wr=>∃(k:Nat) (r:List Nat),k<=n/\i=.int .i64 k/\Hid (A1b w wr Z l r n m k)) (λi _=>n-(intOf i).toNat)
 case atStart => exact ⟨0, List.replicate (n + m) 0, Yaw _, rfl, by simp, Cu _, Blk.new _ _ _, by
  have:∀q,val (List.replicate q 0)=0:=λq=>by
   induction q with
   |zero=>rfl
   |succ q u=>simp[YdY,val,u]
  simp[val,List.take_replicate,this],(Ext.refl _).alloc _⟩
 case round=>
  obtain⟨k,r,E,rfl,X⟩:=hrel;by_cases Q:k<n
  .obtain ⟨b, o, rfl, G, v⟩:=hA.out (by rw [<-t.out]; omega)
   replace v:=(X.out.2.2.2.2.cell (p:=⟨b,o+k,none⟩) G).trans (v k (by rw[<-t.out];omega));have xc:=Bd xg.out k;generalize F:Z.getD k 0=x at *;replace F:=Af F;unfold BB at xc;go_wp2;obtain⟨wo,rfl⟩:∃wo:World,wo=wr:=⟨_,rfl⟩;go_loopw [7,29] (λcy i wr=>∃(j Y:Nat) (r:List Nat),j<=m/\i=.int .i64 j/\cy=.int .u64 Y/\Y<4294967296/\Hid (MulIn w wr Z l r n m k j x Y)) (λ_ i _=>m-(intOf i).toNat)
   case atStart=>exact⟨0,0,r,Yaw _,rfl,rfl,by omega,X.out.1,X.out.2.1,X.out.2.2.1,by simp[val,X.out.2.2.2.1],X.out.2.2.2.2⟩
   case round=>
    obtain⟨j,Y,r,a,rfl,rfl,xi,h⟩:=hrel;by_cases xn:j<m
    .obtain ⟨S, R, rfl, U, xl⟩:=hB.out (by rw [<-P.out]; omega)
     replace xl:=(h.out.2.2.2.2.cell (p:=⟨S,R+j,none⟩) U).trans (xl j (by rw[<-P.out];omega));have xe:=Bd xk.out j;have xf:=Bd h.out.2.1 (k+j);have T:wr.cell? ⟨w.heap.size,k+j,none⟩=some (.int .u32 (r.getD (k+j) 0:Nat)):=by rw[h.out.2.2.1.cell,Ea (by rw[h.out.1];omega)]
     have xd:=h.out.2.2.1.frozen (k+j);generalize O:l.getD j 0=y at *;generalize L:r.getD (k+j) 0=z at *;replace O:=Af O;replace L:=Af L;unfold BB at xe xf;have I:(x:Int)*y<=18446744065119617025:=by have:=FP xc xe;omega
     have xh:(0:Int)<=(x:Int)*y:=Yco ZbD ZbD;go_wp2;go_quiet (fail);go_wp2;exact⟨(h.out.drewN nq).step xn Q O.out L.out xc xe xf xi ZcU ZcU,by simp[intOf];omega⟩
    .obtain rfl:j=m:=by omega
     have T:wr.cell? ⟨w.heap.size,k+j,none⟩=some (.int .u32 (r.getD (k+j) 0:Nat)):=by rw[h.out.2.2.1.cell,Ea (by rw[h.out.1];omega)]
     have xd:=h.out.2.2.1.frozen (k+j);have xa:=Af (h.out.close Q P.out.symm F.out xi);go_wp2;exact⟨⟨k+1,_,Q,by simp,xa⟩,by simp[intOf];omega⟩
  .obtain rfl:k=n:=by omega
   have s:Hid (Words wr (.slice (some ⟨w.heap.size,0,none⟩) (k+m) (k+m)) r):=by
    have:=CI (c:=k+m) X.out.2.2.1 X.out.2.1 (by rw[X.out.1];omega) ZbD;rw[X.out.1]at this;exact this
   have xa:Hid (val r=val Z*val l):=by
    have C:=X.out.2.2.2.1;have er:r.take (k+m)=r:=Yap (by rw[X.out.1];omega);have ea:Z.take k=Z:=Yap (by rw[<-t.out];omega);rw[er,ea]at C;exact C
   go_wp2_with (go_at_call 287;refine(Ei _ _ _ s.out).mono ?_;rintro e N ⟨g,rfl,xb,V⟩);go_ret;refine⟨g,rfl,?_,X.out.2.2.2.2.trans V⟩;rw[Bn X.out.2.1,xa.out]at xb;exact xb
theorem Tj(h:w.ownsRow n 335 1 z b (wv l).toList)(Y:BM l):Words w z l:=by
 obtain⟨A,B⟩:=h;have J:l.length=b:=by simpa[wv]using A
 rcases B with⟨rfl,rfl⟩ | ⟨g,cap,cur,rfl,_,hg,hc,hm,hsz,ht⟩
 .have:l=[]:=YaF J
  subst this;exact Words.nil _ _ _ ZbD
 .subst J
  refine⟨_,cap,rfl,hc,by simpa[maxLen]using hm,Y,λ_=>⟨g,0,cur,(0,0),rfl,hg,λi K=>?_⟩⟩;have:(cur.toList.take (l.length*1))[i]? = (wv l).toList[i]?:=by rw[ht]
  rw[YaJ,Yan ZbD]at this;have s:=A4c K;rw[YaH];simpa[s]using this
theorem ME(w:World)(t Z e:TypeId)(i:TypeInfo)(M:P.underlying t=some (.slice e))(K:P.info? e=some i)(c:Nat) :
  (Builtin.append_ #[t,t] Z #[.slice none 0 0,.slice none 0 c]).run P w=.ok (.slice none 0 0) w:=by
 simp[Builtin.append_,run_underlying M,sizeOf,typeInfo,K,Builtin.lenOf,Builtin.firstCells]
theorem A0z(b o j:Nat):Addr.add ⟨b,o,none⟩ j=⟨b,o+j,none⟩:=by
 unfold Addr.add;split
 .rename_i h;subst h;rfl
 .rfl
theorem GI{rest:List Oper}(H:va.guard=none)(s x:Operand)(t:TypeId)
  (A:va.op=.call { callee:=.builtin .append,args:=#[s,x],argTypes:=#[t,t] }) (v u:Value) (Y:vl.eval s=v) (E:vl.eval x=u)
  (p:(Builtin.append_ #[t,t] va.type #[v,u]).run P w=.ok z q) (h:wpList P vY vR rest (vl.put va.dst z) q):wpList P vY vR (va::rest) vl w:=by
 refine wpList_plain H λK f=>?_;unfold Oper.wp execOp;exact ZgF
theorem Qb(h:Words w (.slice ux l.length n) l)(f:l.length<=35184372088832) :
  ∃C N,(Builtin.append_ #[107,107] 107 #[.slice none 0 0,.slice ux l.length n]).run prog w=.ok C N/\Words N C l/\Ext w N:=by
 obtain⟨i,K,R,X,d⟩:=info_parts (show(Tryz.prog.info? 335).map (λi=>(i.zero,i.size,i.bytes))=some (some (.int .u32 0),1,4)by kernel_rfl);have Y:=h.small;obtain⟨G,F,r,I,B,E⟩:=h.open_;injection r with A _ L
 subst A;subst L
 cases ux with
 |none=>
  have J:l.length=0:=by
   rcases Yaz l.length with c | c
   .exact c
   .obtain ⟨b,o,O,_⟩:=E c;cases O
  have:l=[]:=YaF J;subst this;exact⟨_,_,ME w _ _ _ i underlying107 K n,Words.nil _ _ _ ZbD,Ext.refl _⟩
 |some V=>
  have e:∀(j:Nat) (u:Value),(wv l).toList[j]? = some u->w.cell? (V.add j)=some u:=by
   intro j u S
   have a:j<l.length:=by
    have:=(Yae.1 S).1;simpa[wv]using this
   obtain⟨b,o,O,_,M⟩:=E ZbD;have g:=Yag O;subst g;have Z:=M j a;have s:=Ea a
   have H:u=.int .u32 (l.getD j 0:Nat):=by
    rw[Ycr,s]at S;exact(Yag S).symm
   rw[H,<-Z,A0z]
  have W:∀u∈(wv l).toList,u.oneCell'=true:=by
   intro u S;have t:u∈l.map λx=>Value.int .u32 (x:Nat):=by simpa[wv]using S
   obtain⟨x,_,rfl⟩:=YaA.1 t;rfl
  obtain ⟨C, N, p, Q, P, _⟩ := run_append_own (P := prog) w w.heap.size 107 107 335 i (.int .u32 0) 1 4 underlying107 K R X d rfl ZbD
   (.slice none 0 0) 0 [] ⟨by simp,.inl ⟨rfl,rfl⟩⟩ V l.length n (wv l).toList (by simp[wv]) e W ZiS ZbD (Yah _)
  refine⟨C,N,p,?_,?_⟩
  .rw [YcH]at Q
   exact Tj Q Y
  .exact (Ext.refl w).trans ((Below.refl _ _).grown P (Yah _) (by simp[Value.ownBlock]))
theorem LV(v:Value)(l:List Nat)(w:World)(h:Words w v l)(f:l.length<=35184372088832) :
  Calls prog 317 #[v] w λe N=>∃Y,e=.returned Y/\Words N Y l/\Ext w N:=by
 obtain⟨A,c,rfl,I,x,E⟩:=h.open_;obtain⟨Y,N,p,B,V⟩:=Qb h f;replace p:=Af p;clear E h;go_enter func317,ntmps317;go_wp2_with (at_builtin;refine GI rfl _ _ _ rfl _ _ rfl rfl p.out ?_);go_ret;exact⟨Y,rfl,B,V⟩
theorem Oq(m:Nat)(w:World)(A:m<18446744073709551616) :
  Calls prog 237 #[.int .u64 m] w λe N=>∃Y,e=.returned Y/\Words N Y (As m)/\Ext w N:=by
 have C:Words (w.alloc (.cells (wv [m%BB,m/BB]) 335)) (.slice (some ⟨w.heap.size,0,none⟩) 2 2) [m%BB,m/BB]:=
  CI (l:=[m%BB,m/BB]) (c:=2) (Blk.new _ _ _) (λx E=>by
   simp at E;rcases E with rfl | rfl
   .exact YaT _ CQ
   .exact Ybw ZcU) ZbS ZbD
 have r:Hid (val [m%BB,m/BB]=m):=by
  show m%BB+BB*(m/BB+BB*0)=m;exact ZiH
 have Z:Hid ((w.alloc (.cells (wv [m%BB,m/BB]) 335))=w.alloc (.cells #[.int .u32 ((m:Int)%4294967296),.int .u32 ((m:Int)/4294967296)] 335)):=by
  simp[wv,BF,Hid]
 have g:=Af C;have B:=Af C.small;rw[Z.out]at g;clear C;go_enter func237,ntmps237;go_wp2_with fail;refine(Ei _ _ _ g.out).mono ?_;rintro e N ⟨Y,rfl,l,V⟩;go_wp2;go_ret;refine⟨Y,rfl,?_,((Ext.refl _).alloc _).trans V⟩;rw[Bn B.out,r.out]at l;exact l
theorem TY(a:Nat)(p:a<18446744073709551616):(BitVec.ofInt 64 (a:Int)).toNat=a:=by
 rw[YdS,Ycx];exact YaS p
theorem RB{q x:Nat}(l:q<4294967296)(E:x<4294967296):bits .or .u64 (q:Int) ((x:Int)*4294967296)=((q+x*4294967296:Nat):Int):=by
 have A:((x:Int)*4294967296)=((x*4294967296:Nat):Int):=by omega
 have B:q ||| (x*4294967296)=q+x*4294967296:=by
  have:=Ycz (i:=32) (b:=q) ZbD x;rw[YdN,show(2:Nat)^32=4294967296 from rfl]at this;rw[Nat.or_comm];omega
 rw[A];show IntKind.u64.wrap ((BitVec.ofInt 64 (q:Int) ||| BitVec.ofInt 64 ((x*4294967296:Nat):Int)).toNat:Int)=_;rw[YdZ,TY q ZbD,TY _ ZbD,IntKind.wrap_u64,B];omega
theorem Tz(v:Value)(l:List Nat)(w:World)(h:Words w v l)(f:l.length<=2) :
  Calls prog 318 #[v] w λe N=>e=.returned (.int .u64 (val l:Nat))/\Ext w N:=by
 obtain⟨A,c,rfl,I,K,F⟩:=h.open_;have Y:=Af h.small;clear h;have R:=Af F;clear F;obtain⟨n,M⟩:∃n,n=l.length:=⟨_,rfl⟩;rw[<-M]at I f ⊢;replace M:=Af M;go_enter func318,ntmps318;go_wp2;go_loop [3,7] (λt i=>∃(k q:Nat),k<=n/\i=.int .i64 k/\t=.int .u64 q/\Hid (q=val (l.take k))) (λ_ i=>n-(intOf i).toNat)
 case atStart=>exact⟨0,0,Yaw _,rfl,rfl,rfl⟩
 case round=>
  obtain⟨k,q,E,rfl,rfl,J⟩:=hrel;by_cases Q:k<n
  .obtain ⟨b, o, rfl, G, O⟩:=R.out (by rw [<-M.out]; omega)
   replace O:=O k Zea;have r:=Bd Y.out k;have U:=Af (Bg l k);generalize F:l.getD k 0=x at *;replace F:=Af F;unfold BB at r;have W:k=0\/k=1:=by omega
   rcases W with rfl | rfl
   .obtain rfl:q=0:=by rw [J.out];rfl
    simp only[Ybd]at O;go_wp2;refine⟨⟨1,x,by omega,rfl,?_,?_⟩,by simp[intOf];omega⟩
    .have B:=RB (q:=x) (x:=0) r ZbD
     have C:bits .or .u64 0 (x:Int)=bits .or .u64 (x:Int) 0:=by
      show IntKind.u64.wrap ((BitVec.ofInt 64 0 ||| BitVec.ofInt 64 (x:Int)).toNat:Int)=IntKind.u64.wrap ((BitVec.ofInt 64 (x:Int) ||| BitVec.ofInt 64 0).toNat:Int);rw[BitVec.or_comm]
     have L:bits .or .u64 (x:Int) 0=x:=Zjl
     rw[C,L]
    .have:=U.out
     rw[<-J.out]at this;simpa[Hid]using this.symm
   .have S:q<4294967296:=by
     rw[J.out];have B:=Bg l 0;have C:=Bd Y.out 0;simp[val]at B;rw[B];simpa[BF]using C
    go_wp2;refine⟨⟨2,q+BB*x,by omega,rfl,?_,?_⟩,by simp[intOf];omega⟩
    .rw [RB S r,BF];congr 1;omega
    .have:=U.out
     rw[<-J.out,Nat.pow_one]at this;exact this.symm
  .obtain rfl:k=n:=by omega
   go_wp2;go_ret;exact⟨by rw[J.out,Yap Zea];rfl,Ext.refl _⟩
def Fx(a b:Nat):Int:=if a<b then -1 else if b<a then 1 else 0
theorem BQ{x y:Nat}(h:x<=y):(As x).length<=(As y).length:=by
 induction y using Nat.strongRecOn generalizing x with
 |_ y u=>
  by_cases E:x=0
  .subst E;rw[BL];exact Yaw _
  .have O:y≠0:=by omega
   rw[Fh E,Fh O];simp only[Yav];have:=u (y/BB) (Ydq ZbD ZbH) (Nat.div_le_div_right (c:=BB) h);omega
theorem TA(p:BM l)(J:l.length=f.length)(C:n<l.length)(b:∀i,n<i->l.getD i 0=f.getD i 0)(Q:l.getD n 0<f.getD n 0):val l<val f:=by
 have key:∀(j:Nat),n+1+j<=l.length->val (l.take (n+1+j))<val (f.take (n+1+j)):=by
  intro j
  induction j with
  |zero=>
   intro _;rw[Ybd,Bg,Bg]
   have A:val (l.take n)<BB^n:=by
    have:=Eg (l:=l.take n) λx E=>p x (Ybr E);rwa [YaO,Ybu (YbT C)]at this
   have B:BB^n*(l.getD n 0+1)<=BB^n*f.getD n 0:=Yas _ Q;rw[YaD]at B;omega
  |succ j u=>
   intro a;have:=u ZbD;rw[<-YbM,Bg,Bg,b (n+1+j) ZbD];omega
 have:=key (l.length-(n+1)) ZbD;rw[show n+1+(l.length-(n+1))=l.length by omega,Yap (Yah _),Yap ZbD]at this;exact this
theorem A0i(J:l.length=f.length)(b:∀i,i<l.length->l.getD i 0=f.getD i 0):l=f:=by
 apply List.ext_getElem J;intro i A B;have:=b i A;simpa[A,B]using this
theorem Lk(h:(As n).length<(As b).length):Fx n b=-1:=by
 have:n<b:=by
  rcases YaG n b with A | A
  .exact A
  .have:=BQ A;omega
 simp[Fx,this]
theorem Ll(h:(As b).length<(As n).length):Fx n b=1:=by
 have:b<n:=by
  rcases YaG b n with A | A
  .exact A
  .have:=BQ A;omega
 have B:¬n<b:=by omega
 simp[Fx,this,B]
theorem Sp{x y k:Nat}(J:(As x).length=(As y).length)(C:k<(As x).length)(b:∀i,k<i->(As x).getD i 0=(As y).getD i 0)(Q:(As x).getD k 0<(As y).getD k 0):Fx x y=-1:=by
 have:=TA (BG x) J C b Q;rw[AJ,AJ]at this;simp[Fx,this]
theorem Sr{x y k:Nat}(J:(As x).length=(As y).length)(C:k<(As x).length)(b:∀i,k<i->(As x).getD i 0=(As y).getD i 0)(Q:(As y).getD k 0<(As x).getD k 0):Fx x y=1:=by
 have:=TA (BG y) J.symm ZbD (λi K=>(b i K).symm) Q;rw[AJ,AJ]at this;have B:¬x<y:=by omega
 simp[Fx,this,B]
theorem Ss(J:(As n).length=(As b).length)(A:∀i,(As n).getD i 0=(As b).getD i 0):Fx n b=0:=by
 have:=A0i J λi _=>A i;have B:n=b:=by rw[<-AJ n,<-AJ b,this]
 simp[Fx,B]
theorem Jg(a g:Value)(x y:Nat)(w:World)(p:Words w a (As x))(I:Words w g (As y)) :
  Calls prog 284 #[a,g] w λe N=>e=.returned (.int .i64 (Fx x y))/\Ext w N:=by
 obtain⟨A,c,rfl,J,u,G⟩:=p.open_;obtain⟨B,d,rfl,L,U,O⟩:=I.open_;clear p I;have f:=Af G;have h:=Af O;clear G O;obtain⟨n,V⟩:∃n,n=(As x).length:=⟨_,rfl⟩;obtain⟨m,z⟩:∃m,m=(As y).length:=⟨_,rfl⟩;rw[<-V]at J ⊢;rw[<-z]at L ⊢;replace V:=Af V;replace z:=Af z;rcases Ycl n m with Q | heq | hgt
 .have W:((n:Int) != m)=true:=Zip
  go_enter func284,ntmps284;go_wp2;exact ZhR
 .subst heq
  have W:((n:Int) != n)=false:=by simp
  go_enter func284,ntmps284;go_wp2;go_loopw [5] (λi wr=>∃k:Nat,k<=n/\i=.int .i64 ((k:Int)-1)/\Hid (Ext w wr/\∀i,k<=i->(As x).getD i 0=(As y).getD i 0)) (λi _=>(intOf i+1).toNat)
  case atStart=>exact Zan
  case round=>
   obtain⟨k,F,rfl,S⟩:=hrel;by_cases r:k=0
   .exact Zao
   .obtain ⟨q, rfl⟩:∃q, k=q+1:=⟨k-1, by omega⟩
    obtain⟨b,o,rfl,I,Z⟩:=f.out Zdo;replace Z:=(S.out.1.cell (p:=⟨b,o+q,none⟩) I).trans (Z q Zdo);obtain⟨R,M,rfl,T,t⟩:=h.out ZeA;replace t:=(S.out.1.cell (p:=⟨R,M+q,none⟩) T).trans (t q ZeA);generalize l:(As x).getD q 0=X at *;generalize s:(As y).getD q 0=Y at *;replace l:=Af l;replace s:=Af s;have j:((q+1:Nat):Int)-1=q:=by omega
    rw[j];rcases Ycl X Y with Q | heq | hgt
    .have v:((X:Int) != Y)=true:=Zip
     go_wp2;go_quiet (fail);go_wp2;go_quiet (fail);go_wp2;go_ret;exact⟨by rw[Sp (k:=q) ZdQ Zdo (λi K=>S.out.2 i K) (by rw[l.out,s.out];exact Q)];rfl,(S.out.1.drewN _).drewN _⟩
    .subst heq
     have v:((X:Int) != X)=false:=by simp
     go_wp2;go_quiet (fail);go_wp2;refine⟨⟨q,by omega,rfl,S.out.1.drewN _,λi K=>?_⟩,by simp[intOf]⟩;rcases YaG q i with C | C
     .exact S.out.2 i C
     .obtain rfl:i=q:=by omega
      rw[l.out,s.out]
    .have v:((X:Int) != Y)=true:=Zip
     have H:¬((X:Int)<Y):=by omega
     go_wp2;go_quiet (fail);go_wp2;go_quiet (fail);go_wp2;exact ZgS
 .have W:((n:Int) != m)=true:=Zip
  go_enter func284,ntmps284;go_wp2;exact ZhL
def IsInt(w:World)(W L:Value)(z:Int):Prop:=W=.bool (decide (z<0))/\Words w L (As z.natAbs)
theorem IsInt.ext(h:IsInt w z u a)(b:Ext w q):IsInt q z u a:=⟨h.1,h.2.ext b⟩
def Jy(z:Int)(w:World)(e:Ending)(N:World):Prop:=∃(b:Bool) (A:Option Addr) (n c:Nat),e=.returned (.agg #[.bool b,.slice A n c])/\IsInt N (.bool b) (.slice A n c) z/\Ext w N
theorem IsInt.set{W L:Value}{z:Int}(h:IsInt w W L z){p:Addr}(M:Ty w p.block t)(C:t≠335)(u:Value):IsInt (w.setCell p u) W L z:=⟨h.1,h.2.set M C u⟩
def Ka(neg:Bool)(n:Nat):Int:=if neg then -(n:Int)else n
theorem MC(neg:Bool)(n:Nat):(Ka neg n).natAbs=n:=by cases neg<;>simp[Ka]
theorem UW(h:n≠0):decide (Ka p n<0)=p:=by cases p<;>simp[Ka]<;>omega
theorem JE(neg:Bool):Ka neg 0=0:=by cases neg<;>rfl
theorem A1G:Ka (!decide (a<0)) a.natAbs=-a:=by
 by_cases h:a<0<;>simp[Ka,h]<;>omega
theorem Nj{z:Int}:Ka (decide (z<0)) z.natAbs=z:=by
 by_cases h:z<0<;>simp[Ka,h]<;>omega
theorem IsInt.bool_eq(h:IsInt w (.bool p) z a):p=decide (a<0):=by
 have:=h.1;injection this
theorem IsInt.neg_eq(h:IsInt w (.bool p) z a):Ka (!p) a.natAbs=-a:=by rw[h.bool_eq];exact A1G
theorem Bs:(As n).length=0↔n=0:=by
 constructor
 .intro h
  have:As n=[]:=YaF h;rw[<-AJ n,this];rfl
 .rintro rfl;rw[BL];rfl
theorem Ext.cells{W j:World}(F:Ext W j):(∀b o,b<W.heap.size->j.cell? ⟨b,o,none⟩=W.cell? ⟨b,o,none⟩)/\(∀b o,b<W.heap.size->j.frozen? ⟨b,o,none⟩=W.frozen? ⟨b,o,none⟩):=
 ⟨λb o h=>F.cell (p:=⟨b,o,none⟩) h,λb o h=>F.frozen (p:=⟨b,o,none⟩) h⟩
theorem EB(neg:Bool)(v:Value)(l:List Nat)(w:World)(h:Words w v l) :
  Calls prog 236 #[.bool neg,v] w λe N=>Jy (Ka neg (val l)) w e N:=by
 have Y:=Af h.small;have H:=Af h;clear h;go_enter func236,ntmps236;go_wp2_with fail;refine(Ei _ _ _ (H.out.ext ((Ext.refl _).alloc _))).mono ?_;rintro e j ⟨C,rfl,J,V⟩;rw[Bn Y.out]at J;obtain⟨A,c,rfl,I,x,E⟩:=J.open_;replace E:=Af E;obtain⟨G,R⟩:=V.cells;by_cases B:(As (val l)).length=0
 .have K:=Af (Bs.1 B)
  generalize f:(As (val l)).length=n at *;subst B;replace f:=Af f;go_wp2;refine bodyPost_ret (v:=.agg #[.bool false,.slice none 0 0]) Zff rfl ⟨_,_,_,_,rfl,⟨?_,?_⟩,?_⟩
  .rw [K.out,JE];rfl
  .rw [K.out,JE]
   show Words _ _ (As 0);rw[BL];exact Words.nil _ _ _ ZbD
  .exact Zjp
 .have K:=Af (λe=>B (Bs.2 e))
  have F:(((As (val l)).length:Int)==0)=false:=Zjl
  go_wp2;refine bodyPost_ret (v:=.agg #[.bool neg,.slice A (As (val l)).length c]) Zff rfl ⟨_,_,_,_,rfl,⟨?_,?_⟩,?_⟩
  .rw [UW K.out]
  .rw [MC]
   have M:=(Ty.new w #[Value.bool false,Value.slice none 0 0] 109).ext V;exact(J.set M ZbH _).set (M.set _ _) ZbH _
  .exact Zjp
theorem Tw(z:Int)(w:World)(c:0<=z)(x:z<18446744073709551616) :
  Calls prog 237 #[.int .u64 z] w λe N=>∃Y,e=.returned Y/\Words N Y (As z.toNat)/\Ext w N:=by
 obtain⟨m,rfl⟩:=YbH c;rw[YdE];exact Oq m w ZbD
theorem A9q(n:Int)(w:World)(c:-9223372036854775808<=n)(A:n<=9223372036854775807) :
  Calls prog 139 #[.int .i64 n] w λe N=>Jy n w e N:=by
 by_cases f:n<0
 .have B:decide (n<0)=true:=by simpa using f
  have Z:Hid (IntKind.u64.wrap (-(IntKind.u64.wrap n))=-n):=by
   simp only[IntKind.wrap_u64,Hid];omega
  go_enter func139,ntmps139;go_wp2_with fail;rw[Z.out];refine(Tw _ _ ZbD ZbD).mono ?_;rintro e j ⟨Y,rfl,C,V⟩;go_wp2_with fail;refine(EB _ _ _ _ C).mono ?_;rintro e J ⟨F,h,s,K,rfl,i,P⟩;replace P:=V.trans P;obtain⟨E,R⟩:=P.cells;replace i:=Af i;replace P:=Af P;clear V C;go_wp2;refine bodyPost_ret (v:=.agg #[.bool F,.slice h s K]) Zfd rfl ⟨_,_,_,_,rfl,?_,?_⟩
  .exact Zap
  .exact Zjq
 .have B:decide (n<0)=false:=by simpa using f
  go_enter func139,ntmps139;go_wp2_with fail;refine(Tw _ _ ZbD ZbD).mono ?_;rintro e j ⟨Y,rfl,C,V⟩;go_wp2_with fail;refine(EB _ _ _ _ C).mono ?_;rintro e J ⟨F,h,s,K,rfl,i,P⟩;replace P:=V.trans P;obtain⟨E,R⟩:=P.cells;replace i:=Af i;replace P:=Af P;clear V C;go_wp2;refine bodyPost_ret (v:=.agg #[.bool F,.slice h s K]) Zfd rfl ⟨_,_,_,_,rfl,?_,?_⟩
  .exact Zaq
  .exact Zjq
theorem A4C(b:Bool)(A:Option Addr)(n c:Nat)(z:Int)(w:World)(h:IsInt w (.bool b) (.slice A n c) z) :
  Calls prog 235 #[.agg #[.bool b,.slice A n c]] w λe N=>e=.returned (.int .i64 z.sign)/\Ext w N:=by
 obtain⟨B,C⟩:=h;obtain⟨K,l,r,I,x,E⟩:=C.open_;injection r with Z s H
 subst Z;subst H;clear E C;injection B with B
 by_cases F:z=0
 .subst F
  have m:n=0:=by rw[s];show(As 0).length=0;rw[BL];rfl
  subst m;clear B s;go_enter func235,ntmps235;go_wp2;go_ret;exact⟨rfl,(Ext.refl _).alloc _⟩
 .have m:n≠0:=by
   rw[s];intro e;have:=Bs.1 e;omega
  have G:((n:Int)==0)=false:=by simpa using m
  replace s:=Af s
  cases b with
  |true=>
   have o:z<0:=by simpa using B
   clear B;go_enter func235,ntmps235;go_wp2;go_ret;exact⟨by rw[Ybe o];rfl,(Ext.refl _).alloc _⟩
  |false=>
   have o:0<z:=by
    have:¬z<0:=Zjl
    omega
   clear B;go_enter func235,ntmps235;go_wp2;go_ret;exact⟨by rw[Ybo o];rfl,(Ext.refl _).alloc _⟩
theorem A7i(b:Bool)(A:Option Addr)(n c:Nat)(z:Int)(w:World)(h:IsInt w (.bool b) (.slice A n c) z)(f:(As z.natAbs).length<=4398046511104) :
  Calls prog 292 #[.agg #[.bool b,.slice A n c]] w (Jy (-z) w):=by
 replace h:=Af h;replace f:=Af f;go_enter func292,ntmps292;go_wp2
 refine wp_region_v ZbI [[], [(3, 0)], [(4, 1)], [], [(6, 3)], [(7, 4)], [(5, 2), (8, 5)]] [[], [0], [0, 1], [], [3], [3, 4], [0, 1, 2, 3, 4, 5]]
  [λv _=>v=.pointer (some ⟨w.heap.size,0,none⟩),λv _=>v=.bool b,λv _=>v=.bool (!b),λv _=>v=.pointer (some ⟨w.heap.size,1,none⟩),λv _=>v=.slice A n c,λv N=>Words N v (As z.natAbs),λv N=>∃b A n c,v=.agg #[.bool b,.slice A n c]/\IsInt N (.bool b) (.slice A n c) (-z)]
  rfl ZbI ZbI ?stab ?steps ?fin
 case stab=>exact .cons (Stab.eq _) (.cons (Stab.eq _) (.cons (Stab.eq _) (.cons (Stab.eq _) (.cons (Stab.eq _) (.cons (λ_ _ _ F h=>h.ext F) (.cons (λ_ _ _ F ⟨b,A,n,c,B,C⟩=>⟨b,A,n,c,B,C.ext F⟩) .nil))))))
 case steps=>
  refine .cons ?s0 (.cons ?s1 (.cons ?s2 (.cons ?s3 (.cons ?s4 (.cons ?s5 (.cons ?s6 .nil))))))
  case s0=>
   intro N i V E p I t;exact Zhv
  case s1=>
   intro N i V E p I t;have H:i (.tmp 3)=.pointer (some ⟨w.heap.size,0,none⟩):=E.1 _ rfl;have W:N.cell? ⟨w.heap.size,0,none⟩=some (.bool b):=V.cellv ZbS;exact AD (by simp[execOp,H,W,go_sem]) rfl
  case s2=>
   intro N i V E p I t;have O:i (.tmp 4)=.bool b:=E.1 _ rfl;exact AD (by simp[execOp,O,go_sem]) rfl
  case s3=>
   intro N i V E p I t;exact Zhv
  case s4=>
   intro N i V E p I t;have a:i (.tmp 6)=.pointer (some ⟨w.heap.size,1,none⟩):=E.1 _ rfl;have W:N.cell? ⟨w.heap.size,1,none⟩=some (.slice A n c):=V.cellv ZbS;exact AD (by simp[execOp,a,W,go_sem]) rfl
  case s5=>
   intro N i V E p I t;have l:i (.tmp 7)=.slice A n c:=E.1 _ rfl;refine CF (by simp[execOp,resolve,invoke,l,t,go_sem]) (LV _ _ _ (h.out.2.ext ((((Ext.refl _).alloc _).alloc _).drew.trans V)) (by have:=f.out;omega)) ?_;rintro e j ⟨o,rfl,G,L⟩;exact⟨o,rfl,L,G⟩
  case s6=>
   intro N i V E p I t;have Q:i (.tmp 5)=.bool (!b):=E.1 _ rfl;have q:Words N (i (.tmp 8)) (As z.natAbs):=E.2.1 _ rfl;refine CF (by simp[execOp,resolve,invoke,Q,t,go_sem]) (EB (!b) _ _ _ q) ?_;rintro e j ⟨d,P,R,k,rfl,r,L⟩;exact⟨_,rfl,L,d,P,R,k,rfl,by rw[AJ]at r;rw[<-h.out.neg_eq];exact r⟩
 case fin=>
  intro g N V hF;obtain⟨K,m,X,u,s,Y⟩:=hF 6 _ rfl;simp only[Yav,Ybv,Nat.reduceAdd,Ybp,YaU,Ybi,YbX,FA,Act.put,Yba,Yby,YbN,s];clear hF s;replace Y:=Af Y;obtain⟨J,S⟩:=V.cells;replace V:=Af V;go_wp2;refine bodyPost_ret (v:=.agg #[.bool K,.slice m X u]) (by simp[results,Tryz.results292,go_sem,J]) rfl ⟨_,_,_,_,rfl,?_,?_⟩
  .have M:Ty N (w.heap.size+1) 109:=by simpa using (Ty.new (w.alloc (.cells #[Value.bool b, Value.slice A n c] 109)) _ _).ext ((Ext.refl _).drew.trans V.out)
   exact(Y.out.set M ZbH _).set (M.set _ _) ZbH _
  .exact (((((Ext.refl _).alloc _).alloc _).drew.trans V.out).set ZbS _).set ZbS _
theorem UX(x y:Int):Ka (!(decide (x<0)==decide (y<0))) (x.natAbs*y.natAbs)=x*y:=by
 have h:=Nj (z:=x);have b:=Nj (z:=y);generalize decide (x<0)=p at *;generalize decide (y<0)=q at *;generalize x.natAbs=m at *;generalize y.natAbs=n at *;subst h;subst b;cases p<;>cases q<;>simp[Ka,Ydr,Int.neg_mul,YeK]
theorem A7m(b J:Bool)(A O:Option Addr)(n c G l:Nat)(x y:Int)(w:World)(h:IsInt w (.bool b) (.slice A n c) x)(K:IsInt w (.bool J) (.slice O G l) y)(f:(As x.natAbs).length<=4398046511104)(S:(As y.natAbs).length<=4398046511104) :
  Calls prog 286 #[.agg #[.bool b,.slice A n c],.agg #[.bool J,.slice O G l]] w (Jy (x*y) w):=by
 replace h:=Af h;replace K:=Af K;replace f:=Af f;replace S:=Af S;go_enter func286,ntmps286;go_wp2
 refine wp_region_v ZbI [[], [(5, 0)], [], [(7, 2)], [(6, 1), (8, 3)], [], [(10, 5)], [], [(12, 7)], [(11, 6), (13, 8)], [(9, 4), (14, 9)]] [[], [0], [], [2], [0, 1, 2, 3], [], [5], [], [7], [5, 6, 7, 8], [0, 1, 2, 3, 4, 5, 6, 7, 8, 9]]
  [λv _=>v=.pointer (some ⟨w.heap.size,0,none⟩),λv _=>v=.bool b,λv _=>v=.pointer (some ⟨w.heap.size+1,0,none⟩),λv _=>v=.bool J,λv _=>v=.bool (!(b==J)),λv _=>v=.pointer (some ⟨w.heap.size,1,none⟩),λv _=>v=.slice A n c,λv _=>v=.pointer (some ⟨w.heap.size+1,1,none⟩),λv _=>v=.slice O G l,λv N=>Words N v (As (val (As x.natAbs)*val (As y.natAbs))),λv N=>∃b A n c,v=.agg #[.bool b,.slice A n c]/\IsInt N (.bool b) (.slice A n c) (x*y)]
  rfl ZbI ZbI ?stab ?steps ?fin
 case stab=>exact Zjr
 case steps=>
  refine .cons ?s0 (.cons ?s1 (.cons ?s2 (.cons ?s3 (.cons ?s4 (.cons ?s5 (.cons ?s6 (.cons ?s7 (.cons ?s8 (.cons ?s9 (.cons ?s10 .nil))))))))))
  case s0=>
   exact Zid
  case s1=>
   intro N i V E p I t;exact ZhF
  case s2=>
   exact Zie
  case s3=>
   intro N i V E p I t;exact ZhA
  case s4=>
   intro N i V E p I t;have q:i (.tmp 6)=.bool b:=E.1 _ rfl;exact ZhD
  case s5=>
   exact Zid
  case s6=>
   intro N i V E p I t;exact ZhB
  case s7=>
   exact Zie
  case s8=>
   intro N i V E p I t;exact Zhx
  case s9=>
   intro N i V E p I t;have xc:i (.tmp 11)=.slice A n c:=E.1 _ rfl;have xe:i (.tmp 13)=.slice O G l:=E.2.1 _ rfl;refine CF ZeV (Xr _ _ _ _ _ (h.out.2.ext (((((Ext.refl _).alloc _).alloc _).alloc _).drew.trans V)) (K.out.2.ext (((((Ext.refl _).alloc _).alloc _).alloc _).drew.trans V)) f.out S.out) ?_;rintro e j ⟨T,rfl,L,Q⟩;exact⟨T,rfl,Q,L⟩
  case s10=>
   intro N i V E p I t;have e9:i (.tmp 9)=.bool (!(b==J)):=E.1 _ rfl;have xf:=E.2.1 _ rfl;refine CF Zfa (EB (!(b==J)) _ _ _ xf) ?_;exact ZgP
 case fin=>
  intro g N V hF;obtain⟨X,z,m,u,s,o⟩:=hF 10 _ rfl;simp only[Yav,Ybv,Nat.reduceAdd,Ybp,YaU,Ybi,YbX,FA,Act.put,Yba,Yby,YbN,s];clear hF s;replace o:=Af o;obtain⟨R,a⟩:=V.cells;replace V:=Af V;go_wp2;refine bodyPost_ret (v:=.agg #[.bool X,.slice z m u]) (by simp[results,Tryz.results286,go_sem,R]) rfl ⟨_,_,_,_,rfl,?_,?_⟩
  .exact Zar
  .exact Zjs
theorem UY(h:decide (a<0)=decide (j<0)):Ka (decide (a<0)) (a.natAbs+j.natAbs)=a+j:=by
 by_cases E:a<0<;>by_cases O:j<0<;>simp[E,O]at h<;>simp[Ka,E]<;>omega
theorem ZT(h:¬decide (a<0)=decide (j<0))(i:j.natAbs<=a.natAbs):Ka (decide (a<0)) (a.natAbs-j.natAbs)=a+j:=by
 by_cases E:a<0<;>by_cases O:j<0<;>simp[E,O]at h<;>simp[Ka,E]<;>omega
theorem ZS(h:¬decide (a<0)=decide (j<0))(i:a.natAbs<=j.natAbs):Ka (decide (j<0)) (j.natAbs-a.natAbs)=a+j:=by
 by_cases E:a<0<;>by_cases O:j<0<;>simp[E,O]at h<;>simp[Ka,O]<;>omega
theorem FT(v:Value)(l:List Nat)(w:World)(h:Words w v l) :
  Calls prog 288 #[v] w λe N=>∃M,e=.returned M/\Words N M (Ej l)/\Ext w N:=by
 obtain⟨A,c,rfl,I,J,E⟩:=h.open_;have H:=Af h;have Y:=Af h.small;clear h;have R:=Af E;clear E;obtain⟨n,f⟩:∃n,n=l.length:=⟨_,rfl⟩;rw[<-f]at I ⊢;have j:=Af f;clear f;go_enter func288,ntmps288;go_wp2;go_loop [3] (λt=>∃k:Nat,k<=n/\t=.int .i64 k/\Hid (Ej l=Ej (l.take k))) (λt=>(intOf t).toNat)
 case atStart=>exact Zjo
 case round=>
  exact Zam
theorem Iq(neg:Bool)(v:Value)(l:List Nat)(w:World)(h:Words w v l) :
  Calls prog 239 #[.bool neg,v] w λe N=>Jy (Ka neg (val l)) w e N:=by
 have Y:=Af h.small;have H:=Af h;clear h;go_enter func239,ntmps239;go_wp2_with fail;refine(FT _ _ _ (H.out.ext ((Ext.refl _).alloc _))).mono ?_;rintro e j ⟨F,rfl,K,V⟩;rw[Bn Y.out]at K;obtain⟨A,c,rfl,I,x,E⟩:=K.open_;replace E:=Af E;obtain⟨J,R⟩:=V.cells;by_cases B:(As (val l)).length=0
 .have L:=Af (Bs.1 B)
  generalize f:(As (val l)).length=n at *;subst B;replace f:=Af f;have C:Hid (As (val l)=[]):=by rw[L.out];exact BL
  rw[C.out]at K;replace K:=Af K
  cases neg with
  |false=>
   exact Zas
  |true=>
   exact Zas
 .have L:=Af (λe=>B (Bs.2 e))
  have G:decide ((0:Int)<((As (val l)).length:Int))=true:=Zip
  have X:0<(As (val l)).length:=by omega
  replace K:=Af K;generalize f:(As (val l)).length=n at *;replace f:=Af f
  cases neg with
  |false=>
   go_wp2;refine bodyPost_ret (v:=.agg #[.bool false,.slice A n c]) ZdV rfl ⟨_,_,_,_,rfl,⟨?_,?_⟩,?_⟩
   .rw [UW L.out]
   .exact Zat
   .exact Zjp
  |true=>
   go_wp2;refine bodyPost_ret (v:=.agg #[.bool true,.slice A n c]) ZdV rfl ⟨_,_,_,_,rfl,⟨?_,?_⟩,?_⟩
   .rw [UW L.out]
   .exact Zat
   .exact Zjp
theorem A3o(v:Value)(l:List Nat)(i:Nat)(w:World)(h:Words w v l) :
  Calls prog 309 #[v,.int .i64 i] w λe N=>e=.returned (.int .u64 (l.getD i 0:Nat))/\w=N:=by
 obtain⟨A,c,rfl,I,G,E⟩:=h.open_;have Y:=Bd h.small i;by_cases K:i<l.length
 .obtain ⟨b, o, rfl, F, J⟩:=E ZbD
  replace J:=J i K;clear E h;generalize l.getD i 0=x at *;generalize l.length=n at *;unfold BB at Y;have C:decide ((i:Int)<n)=true:=by simpa using K
  go_enter func309,ntmps309;go_wp2;go_ret;exact⟨rfl,rfl⟩
 .have B:Hid (l.getD i 0=0):=by simp [show l.length<=i by omega, Hid]
  clear E h Y;generalize l.length=n at *;have C:decide ((i:Int)<n)=false:=Zip
  go_enter func309,ntmps309;go_wp2;go_ret;exact⟨by rw[B.out];rfl,rfl⟩
theorem Ij(v:Value)(l:List Nat)(i x:Nat)(w:World)(h:Words w v l)(E:l.getD i 0=x) :
  Calls prog 309 #[v,.int .i64 i] w λe N=>e=.returned (.int .u64 (x:Nat))/\w=N:=by
 subst E;exact A3o v l i w h
theorem IK(m:Nat)(w:World)(A:m<18446744073709551616) :
  Calls prog 240 #[.int .u64 m] w λe N=>∃Y,e=.returned Y/\Words N Y (As m)/\Ext w N:=by
 have C:Words (w.alloc (.cells (wv [m%BB,m/BB]) 335)) (.slice (some ⟨w.heap.size,0,none⟩) 2 2) [m%BB,m/BB]:=
  CI (l:=[m%BB,m/BB]) (c:=2) (Blk.new _ _ _) (λx E=>by
   simp at E;rcases E with rfl | rfl
   .exact YaT _ CQ
   .exact Ybw ZcU) ZbS ZbD
 have r:Hid (val [m%BB,m/BB]=m):=by
  show m%BB+BB*(m/BB+BB*0)=m;exact ZiH
 have Z:Hid ((w.alloc (.cells (wv [m%BB,m/BB]) 335))=w.alloc (.cells #[.int .u32 ((m:Int)%4294967296),.int .u32 ((m:Int)/4294967296)] 335)):=by
  simp[wv,BF,Hid]
 have g:=Af C;have B:=Af C.small;rw[Z.out]at g;clear C;go_enter func240,ntmps240;go_wp2_with fail;refine(FT _ _ _ g.out).mono ?_;rintro e N ⟨Y,rfl,l,V⟩;go_wp2;go_ret;refine⟨Y,rfl,?_,((Ext.refl _).alloc _).trans V⟩;rw[Bn B.out,r.out]at l;exact l
def AddRel(w wr:World)(V A r:List Nat)(n k Q:Nat):Prop:=
 r.length=n/\BM r/\Blk wr w.heap.size 335 (wv r)/\val (r.take k)+BB^k*Q=val (V.take k)+val (A.take k)/\Ext w wr
theorem AddRel.step{V K r:List Nat}{n k Q x y:Nat}(h:AddRel w q V K r n k Q)(C:k<n)(E:V.getD k 0=x)(O:K.getD k 0=y)(N:x<4294967296)(R:y<4294967296)(I:Q<=1){u z:Int}(J:u=((x+Q+y)%BB:Nat))(o:z=((x+Q+y)/BB:Nat)) :
  ∃(M G:Nat) (l:List Nat),M<=n/\Value.int .i64 ((k:Int)+1)=.int .i64 M/\Value.int .u64 z=.int .u64 G/\G<=1/\Hid (AddRel w (q.setCell ⟨w.heap.size,k,none⟩ (.int .u32 u)) V K l n M G):=by
 obtain⟨A,B,L,S,F⟩:=h;obtain⟨Z,s⟩:=A2B ZbD E O (by rw[BF];exact N) (by rw[BF];exact R) I S;refine⟨k+1,(x+Q+y)/BB,r.set k ((x+Q+y)%BB),C,by simp,by rw[o],s,by simpa using A,Do B k (YaT _ CQ),?_,Z,?_⟩
 .rw [J,<-Jo]
  exact L.set k _
 .exact Below.setCell F (Yah _) _
theorem AddRel.close{V E r:List Nat}(h:AddRel w q V E r n n b)(f:V.length<n)(x:E.length<n)(hA:BM V)(F:BM E):val r=val V+val E:=by
 obtain⟨A,B,L,S,C⟩:=h;rw[Yap (show V.length<=n by omega),Yap (show E.length<=n by omega),Yap (show r.length<=n by omega)]at S;have I:val V<BB^(n-1):=Yaq (Eg hA) (Ybk CQ ZbD);have G:val E<BB^(n-1):=Yaq (Eg F) (Ybk CQ ZbD);have e:BB^n=BB*BB^(n-1):=by rw[<-Nat.pow_succ'];exact Zhc
 have s:2*BB^(n-1)<=BB*BB^(n-1):=YaB _ ZbH;rcases Yaz b with c | c
 .subst c;omega
 .have:BB^n*1<=BB^n*b:=Yas _ c
  omega
theorem A0F(q a:Value)(M R:List Nat)(w:World)(p:Words w q M)(F:Words w a R)(f:M.length<=4398046511104)(J:R.length<=4398046511104) :
  Calls prog 275 #[q,a] w λe N=>∃Y,e=.returned Y/\Words N Y (As (val M+val R))/\Ext w N:=by
 obtain⟨A,c,rfl,I,P,E⟩:=p.open_;obtain⟨B,d,rfl,G,xc,O⟩:=F.open_;have Ha:=Af p;have Hb:=Af F;clear p F E O;have u:=Af Ha.out.small;have H:=Af Hb.out.small;have xe:=u;generalize X:M.length=n at *;generalize z:R.length=m at *;replace X:=Af X;replace z:=Af z;clear xe;rcases YaG n m with xd | xd
 .have s:n<=m:=by omega
  have xb:m<=m:=by omega
  have v:=λW=>CA (m+1) ZbD .i64 .i64 W;simp only[Ycq,Yea]at v;go_enter func275,ntmps275;go_wp2;go_loopw [7,8] (λo i wr=>∃(k L:Nat) (r:List Nat),k<=m+1/\i=.int .i64 k/\o=.int .u64 L/\L<=1/\Hid (AddRel w wr M R r (m+1) k L)) (λ_ i _=>m+1-(intOf i).toNat)
  case atStart=>exact⟨0,0,List.replicate (m+1) 0,Yaw _,rfl,rfl,by omega,⟨by simp,Cu _,Blk.new _ _ _,by simp[val],(Ext.refl _).alloc _⟩⟩
  case round=>
   obtain⟨k,L,r,C,rfl,rfl,t,K⟩:=hrel;by_cases Q:k<m+1
   .have xa:decide ((k:Int)<(m:Int)+1)=true:=Zip
    exact Zau
   .obtain rfl:k=m+1:=by omega
    have xa:decide (((m+1:Nat):Int)<(m:Int)+1)=false:=by simp
    have Z:=Af (K.out.close (by rw[X.out];omega) (by rw[z.out];omega) u.out H.out)
    have S:Hid (Words wr (.slice (some ⟨w.heap.size,0,none⟩) (m+1) (m+1)) r):=by
     have:=CI (c:=m+1) K.out.2.2.1 K.out.2.1 Zfk ZbD;rw[K.out.1]at this;exact this
    go_wp2_with (go_at_call 288;refine(FT _ _ _ S.out).mono ?_;rintro e N ⟨Y,rfl,l,V⟩);go_ret;refine⟨Y,rfl,?_,K.out.2.2.2.2.trans V⟩;rw[Bn K.out.2.1,Z.out]at l;exact l
 .have s:n<=n:=by omega
  have xb:m<=n:=by omega
  have U:¬n<m:=by omega
  have v:=λW=>CA (n+1) ZbD .i64 .i64 W;simp only[Ycq,Yea]at v;go_enter func275,ntmps275;go_wp2;go_loopw [7,8] (λo i wr=>∃(k L:Nat) (r:List Nat),k<=n+1/\i=.int .i64 k/\o=.int .u64 L/\L<=1/\Hid (AddRel w wr M R r (n+1) k L)) (λ_ i _=>n+1-(intOf i).toNat)
  case atStart=>exact⟨0,0,List.replicate (n+1) 0,Yaw _,rfl,rfl,by omega,⟨by simp,Cu _,Blk.new _ _ _,by simp[val],(Ext.refl _).alloc _⟩⟩
  case round=>
   obtain⟨k,L,r,C,rfl,rfl,t,K⟩:=hrel;by_cases Q:k<n+1
   .have xa:decide ((k:Int)<(n:Int)+1)=true:=Zip
    exact Zau
   .obtain rfl:k=n+1:=by omega
    have xa:decide (((n+1:Nat):Int)<(n:Int)+1)=false:=by simp
    have Z:=Af (K.out.close (by rw[X.out];omega) (by rw[z.out];omega) u.out H.out)
    have S:Hid (Words wr (.slice (some ⟨w.heap.size,0,none⟩) (n+1) (n+1)) r):=by
     have:=CI (c:=n+1) K.out.2.2.1 K.out.2.1 Zfk ZbD;rw[K.out.1]at this;exact this
    go_wp2_with (go_at_call 288;refine(FT _ _ _ S.out).mono ?_;rintro e N ⟨Y,rfl,l,V⟩);go_ret;refine⟨Y,rfl,?_,K.out.2.2.2.2.trans V⟩;rw[Bn K.out.2.1,Z.out]at l;exact l
end
