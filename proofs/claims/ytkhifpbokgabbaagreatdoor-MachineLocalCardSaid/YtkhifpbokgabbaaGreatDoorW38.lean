import Derived.Test.YtkhifpbokgabbaaGreatDoorW37
import Derived.Test.YtkhifpbokgabbaaGreatDoorW23
import Derived.Test.YtkhifpbokgabbaaGreatDoorW35
import Derived.Test.YtkhifpbokgabbaaGreatDoorW29
import Derived.Test.YtkhifpbokgabbaaGreatDoorRows
import Derived.Test.YtkhifpbokgabbaaGreatDoorChecked
import Derived.Test.YtkhifpbokgabbaaGreatDoorW22
import Derived.ProofKit
import Derived.OpenShut
import Derived.Carry
import Derived.Lay
import Derived.LaidHandle
import Derived.ChangeSlices
set_option maxHeartbeats 4000000
set_option maxRecDepth 100000
set_option linter.unusedSimpArgs false
set_option linter.unusedVariables false
namespace Go.Proofs.YtkhifpbokgabbaaGreatDoor
open Go.RowKit
def bndN (p n r f:Int):Int:=IntKind.i64.wrap ((IntKind.i64.wrap ((IntKind.i64.wrap ((IntKind.i64.wrap ((IntKind.i64.wrap (p+(IntKind.i64.wrap ((IntKind.i64.wrap ((IntKind.i64.wrap (p+1))+n)) * (IntKind.i64.wrap (f+3))))))+(IntKind.i64.wrap (2 * n))))+3))+(IntKind.i64.wrap ((IntKind.i64.wrap ((IntKind.i64.wrap (r * n)) * (IntKind.i64.wrap (n - 1)))).tdiv 2))))+(IntKind.i64.wrap (n * (IntKind.i64.wrap (n+1)))))
theorem bound_ok {S:Setup} (hS:SetV S):l0 S.players S.nb S.rounds 0 <= bndN S.players S.nb S.rounds 60 /\ bndN S.players S.nb S.rounds 60 <= 650:=by
  have hp:=hS.pl
  have hn:=hS.nb
  have hr:=hS.ro
  have key:∀ p:Fin 3,∀ n:Fin 5,∀ r:Fin 3,l0 ((p.1+1:Nat):Int) ((n.1+1:Nat):Int) ((r.1+1:Nat):Int) 0 <= bndN ((p.1+1:Nat):Int) ((n.1+1:Nat):Int) ((r.1+1:Nat):Int) 60 /\ bndN ((p.1+1:Nat):Int) ((n.1+1:Nat):Int) ((r.1+1:Nat):Int) 60 <= 650:=by decide +kernel
  have:=key ⟨S.players.toNat - 1,by omega⟩ ⟨S.nb - 1,by omega⟩ ⟨S.rounds.toNat - 1,by omega⟩
  dsimp only at this
  rwa [show ((S.players.toNat - 1+1:Nat):Int)=S.players by omega,show S.nb - 1+1=S.nb by omega,show ((S.rounds.toNat - 1+1:Nat):Int)=S.rounds by omega] at this
theorem setV {xs:List Int} {F:HL} {A:Option Addr} {n:Nat} (hl:ArgL F A n xs) {S:Setup} {T:HL} (h:SetG xs S T):SetV S:=by
  have h1:=sCnt_bd hl
  have h2:=sPl_bd hl
  have hn:=h.nb
  have k2:=kv_bd hl 2
  obtain ⟨e1,e2,e3,e4,e5,e6,e7,e8⟩:=h.nums
  exact ⟨by rw [h.pl];exact h2,by omega,by rw [e7];omega,by rw [e8];omega⟩
theorem vgetD_ne {l:List Int} {i j:Nat} {v:Int} (h:i ≠ j):(l.set i v).getD j 0=l.getD j 0:=by
  rw [List.getD_eq_getElem?_getD,List.getD_eq_getElem?_getD,List.getElem?_set_ne h]
theorem viniL_low {S:Setup} (hp:0 <= S.players) {j:Nat} (hj:j < 48):∀ i,i <= S.nb -> (iniL S i).getD j 0=0
  | 0,_=>by
    rw [iniL,List.getD_eq_getElem?_getD,List.getElem?_replicate]
    split <;> rfl
  | i+1,hi=>by
    have hb:bodyAt S (i:Int)=48+4 * S.players+8 * (i:Int):=by
      rcases vbodyAt hp (i:Int) with e | ⟨_,_,e⟩
      · unfold bodyAt at e
        rw [if_neg (by omega),if_neg (by omega)] at e;omega
      · exact e
    rw [iniL,vgetD_ne (by omega),vgetD_ne (by omega),vgetD_ne (by omega),vgetD_ne (by omega),vgetD_ne (by omega),vgetD_ne (by omega)]
    exact viniL_low hp hj i (by omega)
structure TE2 (S:Setup) (t:Int) (M:MemS):Prop where
  len:(M.cs.length:Int)=sizeOf S
  z:∀ k:Int,1 <= k -> k <= 10 -> M.get k=0
  t0:M.get 0=t
theorem ini_te2 {S:Setup} (hS:SetV S):TE2 S 0 ⟨iniL S S.nb,[],0⟩:=by
  have hp:=hS.pl
  have hlen:(((⟨iniL S S.nb,[],0⟩:MemS).cs.length:Nat):Int)=sizeOf S:=by
    show ((iniL S S.nb).length:Int)=_
    rw [iniL_len];unfold sizeOf;omega
  have g:∀ k:Int,0 <= k -> k < 48 -> (⟨iniL S S.nb,[],0⟩:MemS).get k=0:=λ k h0 h1=>by
    unfold MemS.get
    split
    · exact viniL_low (by omega) (by omega) S.nb (Nat.le_refl _)
    · rfl
  exact ⟨hlen,λ k h1 h2=>g k (by omega) (by omega),g 0 (by omega) (by omega)⟩
theorem TE2.tv {S:Setup} (hS:SetV S) {t:Int} (ht:0 <= t /\ t <= 1000) {M:MemS} (h:TE2 S t M) (ins:Nat -> Inp):TV S ins M /\ lfM S M=l0 S.players S.nb S.rounds 0 /\ stV M:=by
  have h1:=h.z 1 (by omega) (by omega)
  have h2:=h.z 2 (by omega) (by omega)
  have hp:=hS.pl
  refine ⟨⟨h.len,by rw [h.t0];omega,by rw [h1,h2];exact .inl ⟨rfl,by omega,by omega⟩,λ q hq=>by rw [h1,if_pos rfl,h2] at hq;omega,.inl ⟨h1,h2⟩⟩,?_,h1,h2⟩
  unfold lfM
  rw [h1,h2];rfl
theorem SetV.sn {S:Setup} (h:SetV S):SetN S:=⟨⟨by have:=h.pl;omega,by have:=h.pl;omega⟩,by have:=h.nb;omega⟩
theorem row_blk (S:Setup) (A:Option Addr) (n cap:Nat) (xs:List Int) (t:Int) (F:HL) (hl:ArgL F A n xs) (hn:n <= 9223372036854775807) (hp:1 <= S.players /\ S.players <= 1000000) (ht:0 <= t /\ t <= 1000000):Sp Tryz.prog 10 #[Setup.v S,.slice A n cap,vI t] (ap [] []) F (λ u H'=>∃ x:Nat × Nat × List Inp,H'=ap [(x.1,.rows 3 x.2.1 (inrow x.2.2) 89 (0,0))] [] /\ (u=vS x.1 0 S.players.toNat x.2.1 /\ S.players.toNat <= x.2.1 /\ ∀ i,i < S.players.toNat -> x.2.2.getD i dI=rowI S.players xs t i)):=by
 refine (row_any S A n cap xs t F hl hn (by omega) ht).mono λ u H' h=>?_
 obtain ⟨⟨Ai,ci,Ti⟩,rfl,rfl,hsi,hzi⟩:=h
 dsimp only at hsi hzi
 obtain ⟨ib,irest,rfl,rfl,hic⟩:=hsi.open0 hzi (by decide) (by rw [rowL_len];omega)
 rw [rowL_len] at hic
 exact ⟨(ib,ci,rowL S.players xs t S.players.toNat++irest),by simp;rfl,rfl,hic,λ i hi=>by
  rw [List.getD_eq_getElem?_getD,List.getElem?_append_left (by rw [rowL_len];exact hi),<- List.getD_eq_getElem?_getD,rowL_get hi]⟩
theorem setup_ap (A:Option Addr) (n cap:Nat) (xs:List Int) (F:HL) (hl:ArgL F A n xs) (hn:n <= 9223372036854775807):Sp Tryz.prog 4 #[.slice A n cap] (ap [] []) F (λ u H'=>∃ x:Setup × HL,H'=ap [(x.1.bb,.rows 9 x.1.bR (brow x.1.bods) 64 (0,0))] [x.2] /\ (u=Setup.v x.1 /\ SetG xs x.1 x.2)):=setup_any A n cap xs F hl hn
abbrev PlP (S:Setup) (i y:Int):Prop:=0 <= playerAt S i /\ playerAt S i <= y /\ y < playerAt S i+4
abbrev BdP (S:Setup) (b y:Int):Prop:=0 <= bodyAt S b /\ bodyAt S b <= y /\ y < bodyAt S b+8
theorem bcT_mem {S:Setup} {b y:Int}:y ∈ bcT S b ↔ BdP S b y:=by
 unfold bcT
 split
 ·rw [rg_mem];constructor <;> (intro h;unfold BdP at *;omega)
 ·constructor
  ·intro h;exact absurd h List.not_mem_nil
  ·intro h;unfold BdP at h;omega
abbrev HX (M:MemS):Prop:=M.get 1=1 \/ M.get 1=2 \/ M.get 1=6
abbrev PX (M:MemS):Prop:=M.get 1=0 \/ M.get 1=1 \/ M.get 1=3
theorem touL_mem {S:Setup} {M:MemS} {y:Int}:y ∈ touL S M ↔ (((0 <= y /\ y < 14) \/ (HX M /\ (16 <= y /\ y < 48))) \/ (PX M /\ PlP S (M.get 2) y)) \/ ∃ b,b ∈ bodsL M /\ BdP S b y:=by
 unfold touL headL
 rw [List.mem_append,List.mem_append,List.mem_append,List.mem_flatMap]
 refine or_congr (or_congr (or_congr ?_ ?_) ?_) ?_
 ·rw [rg_mem];constructor <;> (intro h;omega)
 ·by_cases h:M.get 1=1 \/ M.get 1=2 \/ M.get 1=6
  ·rw [if_pos h,List.mem_append,rg_mem,rg_mem]
   exact ⟨λ h2=>⟨h,by omega⟩,λ h2=>by have:=h2.2;omega⟩
  ·rw [if_neg h]
   exact ⟨λ h2=>absurd h2 List.not_mem_nil,λ h2=>absurd h2.1 h⟩
 ·by_cases h:0 <= playerAt S (M.get 2) /\ (M.get 1=0 \/ M.get 1=1 \/ M.get 1=3)
  ·rw [if_pos h,rg_mem]
   exact ⟨λ h2=>⟨h.2,h.1,h2.1,by have:=h2.2;omega⟩,λ h2=>⟨h2.2.2.1,by have:=h2.2.2.2;omega⟩⟩
  ·rw [if_neg h]
   exact ⟨λ h2=>absurd h2 List.not_mem_nil,λ h2=>absurd ⟨h2.2.1,h2.1⟩ h⟩
 ·constructor
  ·rintro ⟨b,hb,hy⟩;exact ⟨b,srt_mem.1 (cmp_mem.1 hb),bcT_mem.1 hy⟩
  ·rintro ⟨b,hb,hy⟩;exact ⟨b,cmp_mem.2 (srt_mem.2 hb),bcT_mem.2 hy⟩
theorem ex_app {a c:List Int} {f:Int -> Prop}:(∃ b,b ∈ a++c /\ f b) ↔ (∃ b,b ∈ a /\ f b) \/ ∃ b,b ∈ c /\ f b:=by
 constructor
 ·rintro ⟨b,hb,hf⟩
  rcases List.mem_append.1 hb with h | h
  ·exact .inl ⟨b,h,hf⟩
  ·exact .inr ⟨b,h,hf⟩
 ·rintro (⟨b,hb,hf⟩ | ⟨b,hb,hf⟩)
  ·exact ⟨b,List.mem_append_left _ hb,hf⟩
  ·exact ⟨b,List.mem_append_right _ hb,hf⟩
theorem ex_if {p:Prop} [Decidable p] {x:Int} {f:Int -> Prop}:(∃ b,b ∈ (if p then [x] else []) /\ f b) ↔ p /\ f x:=by
 by_cases h:p
 ·rw [if_pos h]
  exact ⟨λ ⟨b,hb,hf⟩=>⟨h,List.mem_singleton.1 hb ▸ hf⟩,λ h2=>⟨x,List.mem_singleton.2 rfl,h2.2⟩⟩
 ·rw [if_neg h]
  exact ⟨λ ⟨b,hb,hf⟩=>absurd hb List.not_mem_nil,λ h2=>absurd h2.1 h⟩
theorem ex_ifl {p:Prop} [Decidable p] {l:List Int} {f:Int -> Prop}:(∃ b,b ∈ (if p then l else []) /\ f b) ↔ p /\ ∃ b,b ∈ l /\ f b:=by
 by_cases h:p
 ·rw [if_pos h]
  exact ⟨λ h2=>⟨h,h2⟩,λ h2=>h2.2⟩
 ·rw [if_neg h]
  exact ⟨λ ⟨b,hb,hf⟩=>absurd hb List.not_mem_nil,λ h2=>absurd h2.1 h⟩
abbrev VX (M:MemS) (k:Int):Prop:=0 <= IntKind.i64.wrap (M.get 7 - k) /\ IntKind.i64.wrap (M.get 7 - k) < 16
theorem bods_ex {M:MemS} {f:Int -> Prop}:(∃ b,b ∈ bodsL M /\ f b) ↔ ((HX M /\ ((VX M 1 /\ f (M.get (16+IntKind.i64.wrap (M.get 7 - 1)))) \/ (VX M 2 /\ f (M.get (16+IntKind.i64.wrap (M.get 7 - 2)))))) \/ ((3 <= M.get 1 /\ M.get 1 <= 7) /\ f (M.get 2))) \/ ((M.get 1=4 \/ M.get 1=5) /\ f (M.get 3)):=by
 unfold bodsL operL opl
 rw [ex_app,ex_app,ex_ifl,ex_app,ex_if,ex_if,ex_if,ex_if]
theorem TV.ins {S:Setup} (hS:SetV S) {f h:Nat -> Inp} {M:MemS} (hv:TV S f M) (e:∀ q:Nat,(q:Int) < S.players -> f q=h q):TV S h M:=⟨hv.len,hv.t0,hv.ct,λ q hq=>by
 have hq2:(q:Int) < S.players:=by
  have hp:=hS.pl
  rcases hv.ct with k | k | k | k | k | k | k | k <;> (split at hq <;> omega)
 rw [<- e q hq2];exact hv.pl q hq,hv.ec⟩
structure TVR (S:Setup) (ys:List Int) (t:Int) (M:MemS):Prop where
 tv:TV S (λ q=>rowI S.players ys (M.get 0) q) M
 t0:M.get 0 <= t
theorem TVR.next {S:Setup} (hS:SetV S) {g:Gm} (hg:g.S=S) {ys:List Int} {t:Int} (ht:t <= 500) {M:MemS} (h:TVR S ys t M) (hi:∀ q:Nat,(q:Int) < S.players -> g.ins.getD (g.io+q) dI=rowI S.players ys (M.get 0) q) (hni:S.players <= g.ni) :
  phOk M /\ TVR S ys (t+1) (trM g M):=by
 have h0:=h.t0
 have h1:=h.tv.t0
 obtain ⟨hph,h2⟩:=tr_ok hS hg hi hni h.tv
 refine ⟨hph,?_⟩
 rcases h2 with ⟨_,hx⟩ | ⟨_,hx,_⟩
 ·exact ⟨by rw [show (trM g M).get 0=M.get 0 from hx.t0];exact hx.tv,by rw [show (trM g M).get 0=M.get 0 from hx.t0];omega⟩
 ·have ht2:TE2 S (M.get 0+1) (trM g M):=⟨hx.len,hx.z,hx.t0⟩
  exact ⟨(ht2.tv hS (by omega) _).1,by rw [hx.t0];omega⟩
theorem TVR.ini {S:Setup} (hS:SetV S) (ys:List Int):TVR S ys 0 ⟨iniL S S.nb,[],0⟩:=⟨((ini_te2 hS).tv hS (by omega) _).1,by rw [(ini_te2 hS).t0];exact Int.le_refl _⟩
theorem TVR.ph {S:Setup} {ys:List Int} {t:Int} {M:MemS} (h:TVR S ys t M):0 <= M.get 1 /\ M.get 1 <= 7:=by
 rcases h.tv.ct with k | k | k | k | k | k | k | k <;> omega
theorem tou_len (S:Setup) (M:MemS):(touL S M).length <= 100:=by
 unfold touL
 have h1:=headL_len S M
 have h2:=tk_len S (Lib.compact (srt (bodsL M))) (Lib.compact (srt (bodsL M))).length
 rw [List.take_length] at h2
 have h3:=Lib.compact_length_le (srt (bodsL M))
 rw [srt_len] at h3
 have h4:=bodsL_len M
 rw [List.length_append]
 omega
theorem trd_ok {S:Setup} (hS:SetV S) {g:Gm} (hg:g.S=S) {ys:List Int} {t:Int} {M:MemS} (h:TVR S ys t M):TrD (λ i=>i ∈ touL S M) g M:=by
 subst hg
 have hph:=h.ph
 have hpl:=hS.pl
 have hnb:=hS.nb
 refine ⟨λ i h0 h1=>touL_mem.2 (.inl (.inl (.inl ⟨h0,h1⟩))),λ hp h0 c h1 h2=>touL_mem.2 (.inl (.inr ⟨hp,h0,by omega,by omega⟩)),λ hp h0 c h1 h2=>touL_mem.2 (.inr (bods_ex.2 (.inl (.inr ⟨⟨hp,hph.2⟩,h0,by omega,by omega⟩)))),λ hp h0 c h1 h2=>touL_mem.2 (.inr (bods_ex.2 (.inr ⟨hp,h0,by omega,by omega⟩))),λ hr hv=>?_⟩
 have hx:=hr.1
 obtain ⟨h1,h2,h3,h4,h5⟩:=exeOk_of hv.2.2.2
 obtain ⟨hb1,hb2⟩:=e_bd h1
 generalize codeA g.code M=q at *
 generalize hsp:M.get 7=sp at *
 have hst:∀ y:Int,16 <= y -> y < 48 -> y ∈ touL g.S M:=λ y h6 h7=>touL_mem.2 (.inl (.inl (.inr ⟨hx,h6,h7⟩)))
 have e1:w64 (w64 (16+sp) - eP q.op)=16+sp - eP q.op:=by rw [w64_id (x:=16+sp) (by omega),w64_id (by omega)]
 rw [e1]
 refine ⟨⟨hst _ (by omega) (by omega),λ h6=>?_⟩,λ h6=>?_,λ h6 h7=>?_⟩
 ·rw [w64_id (by omega)];exact hst _ (by omega) (by omega)
 ·have hn:eN q.op=16:=by rcases h6 with h6 | h6 <;> (rw [h6];rfl)
  rw [w64_id (by omega)];exact hst _ (by omega) (by omega)
 ·have hn:eN q.op=8:=by rcases h6 with h6 | h6 <;> (rw [h6];rfl)
  have hb:=bodyAt_bd hS.sn (popA q.op sp M)
  have hk:0 <= q.n /\ q.n < 8:=by omega
  rw [w64_id (by omega)]
  have hB:BdP g.S (popA q.op sp M) (bodyAt g.S (popA q.op sp M)+q.n):=⟨h7,by omega,by omega⟩
  refine touL_mem.2 (.inr (bods_ex.2 (.inl (.inl ⟨hx,?_⟩))))
  rcases h6 with h6 | h6
  ·have hp:eP q.op=1:=by rw [h6];rfl
   have e2:IntKind.i64.wrap (M.get 7 - 1)=sp - 1:=by rw [hsp];exact w64_id (by omega)
   have e3:popA q.op sp M=M.get (16+IntKind.i64.wrap (M.get 7 - 1)):=by
    unfold popA
    rw [if_neg (by omega),if_pos hp,e1,e2,hp,show 16+sp - 1=16+(sp - 1) by omega]
   rw [<- e3]
   exact .inl ⟨⟨by rw [e2];omega,by rw [e2];omega⟩,hB⟩
  ·have hp:eP q.op=2:=by rw [h6];rfl
   have e2:IntKind.i64.wrap (M.get 7 - 2)=sp - 2:=by rw [hsp];exact w64_id (by omega)
   have e3:popA q.op sp M=M.get (16+IntKind.i64.wrap (M.get 7 - 2)):=by
    unfold popA
    rw [if_pos hp,e1,e2,hp,show 16+sp - 2=16+(sp - 2) by omega]
   rw [<- e3]
   exact .inr ⟨⟨by rw [e2];omega,by rw [e2];omega⟩,hB⟩
theorem ptr_any (g:Gm) (pb q n:Nat) (M:MemS) (A:Option Addr) (c:Nat) (al:List Int) (U F:HL) (hs:SlIs intE 3 al A c U) (hz:zeroOff A) (hn:al.length <= 100000) (hlen:M.cs.length=n) (hc:n <= 1000000) (hlen2:(trM g M).cs.length=n) (hg:GmIn F g) (h0:phOk M) (hd:TrD (λ i=>i ∈ al) g M) (ver:Int) (hver:g.version=ver) :
  Sp Tryz.prog 11 #[.iface 38 (vP pb 0),.agg #[vI g.S.players,vS g.S.bb (g.S.bo * 9) g.S.nb g.S.bc,vI g.S.box.x0,vI g.S.box.y0,vI g.S.box.x1,vI g.S.box.y1,.slice g.S.rA g.S.rn g.S.rc,.slice g.S.dA g.S.dn g.S.dc,vI g.S.fog,vI g.S.g.x,vI g.S.g.y,vI g.S.push,vI g.S.drag,vI g.S.rest,vI g.S.rounds,vI g.S.fuel],.agg #[.slice g.cA g.cn g.cc,vI g.e0,vI g.e1,vI g.e2],vI ver,vS g.ib (g.io * 3) g.ni g.ic] (ap [(pb,.lit [vS q 0 n n,.slice A al.length c,.bool false] 41 (0,0)),(q,.rows 1 n (irow M.cs) 3 (0,0))] [U]) F (λ u H'=>∃ x:Nat × List Int × Option Addr × Nat × HL,H'=ap [(pb,.lit [vS x.1 0 n n,.slice x.2.2.1 x.2.1.length x.2.2.2.1,.bool false] 41 (0,0)),(x.1,.rows 1 n (irow (trM g M).cs) 3 (0,0))] [x.2.2.2.2] /\ (u=.tuple #[.bool (trE g M),.agg #[vI ((trV g M).e.t),vI ((trV g M).e.i),vI ((trV g M).e.k),vI ((trV g M).e.v)],.bool ((trV g M).em)] /\ SlIs intE 3 x.2.1 x.2.2.1 x.2.2.2.1 x.2.2.2.2 /\ zeroOff x.2.2.1)):=by
 subst hlen
 have e:∀ T:HL,ap [] [T]=T:=λ T=>by simp
 have h:=trans_any (K:=.prb) g pb M 0 _ F (.pr q A c al U hs hz hn (λ i h=>h) hc) hg h0 ver hver hd
 rw [e] at h
 refine h.mono λ u H' h=>?_
 obtain ⟨x,rfl,h1,rfl⟩:=h
 cases h1 with
 | pr cb A' c' al' Hl hs' hz' hn' hD' hc'=>exact ⟨(cb,al',A',c',Hl),by rw [e,hlen2],rfl,hs',hz'⟩
theorem local_law (A A1 A2:Option Addr) (n cap nz cz ny cy:Nat) (xs zs ys:List Int) (ticks:Int) (F:HL) (hE:EffIn F) (hE2:CefIn F) (hl:ArgD F A n xs) (hn:n <= 9223372036854775807) (hl1:ArgD F A1 nz zs) (hn1:nz <= 9223372036854775807) (hc1:nz <= cz) (hl2:ArgD F A2 ny ys) (hn2:ny <= 9223372036854775807) (hticks:i64r ticks):Sp Tryz.prog 3 #[.slice A n cap,.slice A1 nz cz,.slice A2 ny cy,vI ticks] [] F (λ u H'=>u=.bool true /\ H'=[]):=by
 obtain ⟨F_,hl_⟩:=hl.ex
 refine Sp.run Tryz.func3 rfl mn (A:=[]) (Ts:=[]) rfl λ w0=>?_
 refine RN.go 8 [] λ _=>RN.ct (Hp:=[]) (Tp:=[]) [] [] (hl.up.use λ F_ h_=>setup_ap A n cap xs _ h_ hn) ?_
 rintro _ ⟨S,TS⟩ ⟨rfl,hG⟩
 dsimp only at hG
 have hV:=setV hl_ hG
 refine RN.go 7 (ow 0 16) λ n1=>RN.ct (Hp:=[]) (Tp:=[]) [] [] (lprog_any A1 nz cz zs _ hl1.up hn1 hc1 (ro_ap hE2)) ?_
 rintro _ ⟨code,cA,cn,cc,cT,e0,e1,e2⟩ ⟨rfl,hcode⟩
 dsimp only at hcode
 refine RN.go 5 [.own 0,.own 0,.own 0,.own 0] λ n2=>?_
 have hpl:=hV.pl
 have hnb:=hV.nb
 have hsz:(sizeOf S).toNat <= 1000000:=by unfold sizeOf;omega
 have hbd:=bound_ok hV
 have hSN:=hV.sn
 refine RN.go 2 (ow 1 16) λ _=>RN.ct (Hp:=[]) (Tp:=[]) [] [] (rinit_ap S _ (hG.sin _ (in_ap 2) (sub_ap 1))) ?_
 rintro _ q3 rfl
 refine RN.go 9 [] λ n4=>RN.cp (around_any ticks 201 (by decide) _) ?_
 have hA5:=around_bd (n:=ticks) hticks 201 (by decide)
 refine RN.go 4 [] λ _=>RN.nt<|RN.loop (σ:=Int × MemS × Nat × List Int × Option Addr × Nat × HL) (λ ⟨k,M_,q_,al_,A_,c_,U_⟩=>⟨[(2,.slice A2 ny cy),(9,vP (n1+0) 0),(10,vP (n2+0) 0),(11,vP (n4+0) 0),(12,vI k)],[((n4+0),.lit [vS q_ 0 ((sizeOf S).toNat) ((sizeOf S).toNat),.slice A_ al_.length c_,.bool false] 41 (0,0)),(q_,.rows 1 ((sizeOf S).toNat) (irow M_.cs) 3 (0,0)),((n2+0),.lit [.slice cA cn cc,vI e0,vI e1,vI e2] 36 (0,0)),((n1+0),.lit (Setup.l S) 31 (0,0)),(S.bb,.rows 9 S.bR (brow S.bods) 64 (0,0))],[U_,cT,TS],0 <= k /\ k <= 201 /\ TVR S ys (201 - k) M_ /\ SlIs intE 3 al_ A_ c_ U_ /\ zeroOff A_,k.toNat⟩) (around ticks 201,⟨iniL S S.nb,[],0⟩,q3,[],none,0,[]) [0,1,2,3,4] [0,1,2] (⟨by omega,by omega,⟨(TVR.ini hV ys).tv,Int.le_trans (TVR.ini hV ys).t0 (by omega)⟩,SlIs.nil _ _,trivial⟩) ?_
 rintro ⟨k,M_,q_,al_,A_,c_,U_⟩ ⟨hk0_,hk_,htv_,hsa_,hza_⟩ mt7
 have ht0_:=htv_.tv.t0
 have ht1_:=htv_.t0
 have hln_:=htv_.tv.len
 have h48_:48 <= M_.cs.length:=htv_.tv.l48 hV
 have hlN_:M_.cs.length=(sizeOf S).toNat:=by omega
 have hg0_:M_.cs.getD 0 0=M_.get 0:=by unfold MemS.get;rw [if_pos (by omega)];rfl
 refine RN.go 7 [] λ _=>RN.em (k > 0) 25 (λ h8=>?_) λ h8=>?_
 ·refine RN.go 6 [] λ _=>RN.draw [5,8,11] [2,3]<|RD.go [2,3] [0,1,7,2,3,4] [.ro 1,.ro 1,.ro 1,.ro 1,.ro 1,.ro 1,.ro 1,.ro 1,.ro 1,.ro 1,.ro 1,.ro 1,.ro 1,.ro 1,.ro 1,.ro 1,.own 0]<|RD.one 5 (RDO.ct [2,3] (Hp:=[]) (Tp:=[]) [] [] (newn_any q_ M_.cs (sizeOf S).toNat 0 (sizeOf S).toNat _ hlN_ (in_ap 1) hsz (by decide) (Nat.le_refl _)) ?_)
  rintro _ ⟨mq,Tq⟩ ⟨rfl,hMq⟩
  dsimp only at hMq
  refine RD.go [2,3] [6] []<|RD.one 8 (RDO.ct [2,3] (Hp:=[]) (Tp:=[]) [] [] (touches_any mq _ ⟨M_.cs,[],0⟩ S Tq _ hSN hMq (sub_ap 0)) ?_)
  rintro _ ⟨la9,Aa10,ca11,Ta12⟩ ⟨rfl,hsa13,hza14,e15⟩
  dsimp only at hsa13 hza14 e15
  obtain rfl:la9=touL S M_:=e15
  refine RD.go [2,3] [9,10] []<|RD.one 11 (RDO.ev [2,3] [.own 0] λ _=>?_)
  refine RD.fin<|RN.go 2 [] λ _=>RN.draw [8] [2,3]<|RD.goP [2,3] [0,1,2,3,4,5,6,7] (ow 3 16++[.own 0,.ix 0,.row 1 0 0]) [(0+0 * 1)=0 * 1+0 /\ 0 < ((sizeOf S).toNat),0=((0:Nat):Int) /\ 0 < ((sizeOf S).toNat)]<|RD.one 8 (RDO.ct [2,3] (Hp:=[]) (Tp:=[]) [] [] (hl2.up.use λ F_ h_=>row_blk S A2 ny cy ys (M_.cs.getD 0 0) _ h_ hn2 (by omega) (by omega)) ?_)
  rintro _ ⟨ib,ci,ins⟩ ⟨rfl,hic1,hins⟩
  dsimp only at hic1 hins
  refine RD.go [3,4] [9] []<|RD.fin<|RN.go 8 (ow 4 16++[.own 3,.own 3,.own 3,.own 3]) λ _=>?_
  have htr_:=TVR.next hV (g:=(⟨S,cA,cn,cc,e0,e1,e2,0,ib,0,S.players.toNat,ci,ci,ins,code⟩:Gm)) rfl (by omega) htv_ (λ q hq=>by show ins.getD (0+q) dI=_;rw [Nat.zero_add,<- hg0_];exact hins q (by omega)) (by show S.players <= ((S.players.toNat:Nat):Int);omega)
  have hl2_:(trM (⟨S,cA,cn,cc,e0,e1,e2,0,ib,0,S.players.toNat,ci,ci,ins,code⟩:Gm) M_).cs.length=(sizeOf S).toNat:=by have h_:=htr_.2.tv.len;omega
  refine RN.ct [1,2] [0] (ptr_any (⟨S,cA,cn,cc,e0,e1,e2,0,ib,0,S.players.toNat,ci,ci,ins,code⟩:Gm) (n4+0) q_ (sizeOf S).toNat M_ Aa10 ca11 (touL S M_) Ta12 _ hsa13 hza14 (Nat.le_trans (tou_len S M_) (by decide)) hlN_ hsz hl2_ ⟨(hG.sin _ (in_ap 3) (sub_ap 3)),in_ap 0,by show 0+S.players.toNat <= ci /\ S.players.toNat <= 1000000;omega,ro_ap hE,hcode _ (sub_ap 2)⟩ htr_.1 (trd_ok hV rfl htv_) 0 rfl) ?_
  rintro _ ⟨q16,al17,A18,c19,T20⟩ ⟨rfl,hs21,hz22⟩
  dsimp only at hs21 hz22
  refine RN.goP 19 [.own 0,.nw] [I64 (k - 1)] λ _=>?_
  refine mt7 (k - 1,(trM (⟨S,cA,cn,cc,e0,e1,e2,0,ib,0,S.players.toNat,ci,ci,ins,code⟩:Gm) M_),q16,al17,A18,c19,T20) [0,1,3,4,5] [0,3,4] ?_
  try dsimp only
  exact ⟨⟨by omega,by omega,by rw [show 201 - (k - 1)=201 - k+1 by omega];exact htr_.2,hs21,hz22⟩,by omega⟩
 ·refine RN.go 8 [] λ _=>RN.cp (lives_any _ (ro_ap hE))<|RN.go 3 [] λ _=>?_
  exact RN.ret [] [] [] ⟨rfl,rfl⟩
open Go.ChangeShapes Go.WideShapes Go.ChangeAt
theorem own_knob:ownKnob Tryz.prog.godebug=none:=by kernel_rfl
theorem laid_out:laidOutB Tryz.prog=true:=by kernel_rfl
theorem int_range {n:Int} (h:(Lit.int .i64 n).wf=true):-9223372036854775808 <= n /\ n <= 9223372036854775807:=bounds_i64 h
section
variable {H:Type} {enc:TypeId × Value -> H} {P:Program} {W W':World}
theorem trodAll_below (hl:laidOutB P=true) (hb:Below W.heap.size W W'):∀ {ts:List TypeId} {vs:List Value} {ds:List (DataW H)} {ps:List MemPlace},(∀ t ∈ ts,P.readableRec t=true /\ t < P.types.size) ->
    DataW.TrodAll enc P W 0 (λ _=>true) true ts vs ds ps -> (∀ x ∈ ps,x.block < W.heap.size) -> DataW.TrodAll enc P W' 0 (λ b=>decide (b < W.heap.size)) true ts vs ds ps
  | [],_,_,_,_,h,_=>by
    obtain ⟨rfl,rfl,rfl⟩:=trodAll_nil h
    exact trodAll_mk0
  | t :: ts,_,_,_,ht,h,hlt=>by
    obtain ⟨v,vs1,d,ds1,a,b,rfl,rfl,rfl,h1,h2⟩:=trodAll_cons h
    have h3:=ht t (by simp)
    exact trodAll_cons_mk (Below.trod hl h3.1 h3.2 h1 hb (λ x hx=>hlt x (by simp [hx]))) (trodAll_below hl hb (λ t h=>ht t (List.mem_cons_of_mem _ h)) h2 (λ x hx=>hlt x (by simp [hx])))
theorem post_law {f:Func} {s:ChangeSpec} {apart fresh handsOn:Bool} {args:Array Value} {v:Value} {ds:List (DataW H)} {before:List MemPlace} (hl:laidOutB P=true)
    (hts:∀ t ∈ f.params.toList,P.readableRec t=true /\ t < P.types.size)
    (hW:DataW.Whole enc P f.params.toList s.vars apart W args.toList ds [] before) (hs:s.vars=[])
    (hA:DataW.TrodAll enc P W 0 (λ _=>true) true f.params.toList args.toList ds before)
    (hres:∀ (b:Nat) (sp:Nat -> Bool) (hd:Bool),DataW.TrodAll enc P W' b sp hd f.resultTypes.toList (v.resultList f.resultTypes.size) (s.fn H (ds++[])).results [])
    (hargs:(s.fn H (ds++[])).args=ds) (hvars:∀ sp,DataW.TrodVars enc P W' sp s.vars (s.fn H (ds++[])).vars []) (hb:Below W.heap.size W W') :
    s.post enc P f apart fresh handsOn false W args v W':=by
  refine ⟨ds,[],before,[],before,[],hW,hres _ _ _,?_,hvars _,hb.frame _,λ h=>by cases h⟩
  rw [hargs]
  exact trodAll_below hl hb hts hA (λ x hx=>hW.lt x hx)
end
def blkOf:Obj -> Blk
  | .cells cs ty fz=>.rows 1 cs.size (λ i _=>cs.getD i default) ty fz
  | o=>.obj o
theorem blkOf_den (o:Obj):(blkOf o).den=o:=by
  cases o with
  | cells cs ty fz =>
    show Obj.cells ⟨rowsOf 1 (λ i _=>cs.getD i default) cs.size⟩ ty fz=_
    congr 1
    have e:rowsOf 1 (λ i _=>cs.getD i default) cs.size=cs.toList:=by
      refine rowsOf_ext (by simp) ?_
      intro i k hi hk
      obtain rfl:k=0:=by omega
      simp [Array.getD,hi]
    rw [e]
  | _=>rfl
def worldF (w:World):HL:=List.ofFn (λ k:Fin w.heap.size=>(k.1,blkOf w.heap[k.1]))
theorem worldF_mem {w:World} {k:Nat} {o:Obj} (h:w.heap[k]?=some o):(k,blkOf o) ∈ worldF w:=by
  obtain ⟨hk,he⟩:=Array.getElem?_eq_some_iff.1 h
  exact List.mem_ofFn.2 ⟨⟨k,hk⟩,by simp [he]⟩
theorem worldF_rel (w:World):Rel (worldF w) w:=by
  refine ⟨λ x hx=>?_,?_⟩
  · obtain ⟨k,rfl⟩:=List.mem_ofFn.1 hx
    simp [blkOf_den]
  · unfold worldF
    rw [List.map_ofFn]
    have e:List.ofFn ((λ x:Nat × Blk=>x.1) ∘ λ k:Fin w.heap.size=>(k.1,blkOf w.heap[k.1]))=List.range w.heap.size:=by
      apply List.ext_getElem
      · simp
      · intro i h1 h2;simp
    rw [e]
    exact List.nodup_range
theorem Sp.callsW {P:Program} {f:FuncId} {args:Array Value} {v:Value} (w:World) (h:Sp P f args [] (worldF w) (λ u H'=>u=v /\ H'=[])):Calls P f args w λ e w'=>e=.returned v /\ Below w.heap.size w w':=by
  refine (h w (worldF_rel w)).mono ?_
  rintro e w' ⟨u,H',rfl,⟨rfl,rfl⟩,hR',hB⟩
  refine ⟨rfl,hB.os,hB.tape,hB.output,hB.size,λ k hk=>?_⟩
  have:=hR'.holds (k,blkOf w.heap[k]) (by rw [List.nil_append];exact worldF_mem (by simp [hk]))
  rw [this]
  simp [blkOf_den,hk]
theorem open_arg {H:Type} {enc:TypeId × Value -> H} {w:World} {r:Reach} {b0:Nat} {v:Value} {d:DataW H} {ps:List MemPlace} (hval:Value.okWide Tryz.prog w r b0 22 v) (hd:DataW.Trod enc Tryz.prog w 0 (λ _=>true) true 22 v d ps) :
    ∃ (A:Option Addr) (n cap:Nat) (xs:List Int),v=.slice A n cap /\ n <= 9223372036854775807 /\ ArgL (worldF w) A n xs /\ n <= cap:=by
  obtain ⟨a0,len,cap,rfl⟩:=okWide_slice Tryz.underlying22 hval
  obtain ⟨fuel,hf⟩:=hd
  rcases open_ints Tryz.underlying22 Tryz.underlying3 (by kernel_rfl) hf with ⟨hcs,hx⟩ | ⟨a,len',cap',zs,hcs,_,hl,hm,hz,hx,hcell,hwz⟩
  · simp [Value.cells] at hcs
    obtain ⟨rfl,rfl,rfl⟩:=hcs
    exact ⟨none,0,0,[],rfl,by omega,.zero _,Nat.le_refl _⟩
  · simp [Value.cells] at hcs
    obtain ⟨rfl,rfl,rfl⟩:=hcs
    unfold maxLen at hm
    simp at hz
    rcases Nat.eq_zero_or_pos len with h0 | hpos
    · subst h0
      exact ⟨some a,0,_,[],rfl,by omega,.zero _,Nat.zero_le _⟩
    · have hlz:len <= zs.length:=by omega
      obtain ⟨b,off,spot⟩:=a
      have c0:=hcell 0 (by omega)
      have hsp:spot=none:=by
        cases spot with
        | none=>rfl
        | some s=>simp [Addr.add,World.cell?] at c0;split at c0 <;> simp at c0
      subst hsp
      have hc:∀ i,i < zs.length -> w.cell? ⟨b,off+i,none⟩=some (.int .i64 (zs.getD i 0)):=λ i hi=>by
        have:=hcell i hi
        unfold Addr.add at this
        by_cases h:i=0
        · subst h;simpa using this
        · rw [if_neg h] at this;exact this
      have h0:=hc 0 (by omega)
      unfold World.cell? at h0
      split at h0
      case h_2=>cases h0
      rename_i cs ty fz hb
      refine ⟨some ⟨b,off,none⟩,len,cap,zs.take len,rfl,by omega,?_,hl⟩
      have hlen:(zs.take len).length=len:=by rw [List.length_take];omega
      have hcs:∀ k,k < len -> cs[off+k]?=some (vI ((zs.take len).getD k 0)):=λ k hk=>by
        have h1:=hc k (by omega)
        unfold World.cell? at h1
        rw [show w.heap[(⟨b,off+k,none⟩:Addr).block]?=some (.cells cs ty fz) from hb] at h1
        have h2:cs[off+k]?=some (.int .i64 (zs.getD k 0)):=by simpa using h1
        rw [h2]
        simp [List.getD_eq_getElem?_getD,List.getElem?_take,hk]
      have hmem:=worldF_mem hb
      have hle:off+len <= cs.size:=by
        have h1:=hcs (len - 1) (by omega)
        have h2:=(Array.getElem?_eq_some_iff.1 h1).1
        omega
      have:=ArgL.cells (F:=worldF w) b off cs.size (λ i _=>cs.getD i default) ty fz (zs.take len) hmem (by rw [hlen];exact hle) (λ k hk=>by
        rw [hlen] at hk
        have h1:=hcs k hk
        simp only [Array.getD_eq_getD_getElem?]
        rw [h1];rfl) (λ k hk=>by
        rw [hlen] at hk
        have:(zs.take len).getD k 0 ∈ zs:=by
          rw [List.getD_eq_getElem?_getD,List.getElem?_eq_getElem (by omega)]
          exact List.mem_of_mem_take (List.getElem_mem _)
        exact int_range (hwz _ this))
      rw [hlen] at this
      exact this
end Go.Proofs.YtkhifpbokgabbaaGreatDoor
