import Derived.Test.YtgdcbiiopbpgaaaGreatDoorY48
import Derived.Test.YtgdcbiiopbpgaaaGreatDoorRows
import Derived.Test.YtgdcbiiopbpgaaaGreatDoorChecked
import Derived.Test.YtgdcbiiopbpgaaaGreatDoorY22
import Derived.ProofKit
import Derived.OpenShut
import Derived.Carry
import Derived.Lay
import Derived.LaidHandle
import Derived.ChangeSlices
import Derived.Test.YtgdcbiiopbpgaaaGreatDoorY40
import Derived.Lib.LaidTab
import Derived.MakeChecks
import Derived.Test.YtgdcbiiopbpgaaaGreatDoorTie
import Derived.Test.YtgdcbiiopbpgaaaGreatDoorCards
import Derived.SevenTiedAt
import Derived.JoinedOf
set_option maxHeartbeats 4000000
set_option maxRecDepth 100000
set_option linter.unusedSimpArgs false
set_option linter.unusedVariables false
namespace Go.Proofs.YtgdcbiiopbpgaaaGreatDoor
open Go.RowKit
theorem SlIs.capL {α:Type} {e:Enc α} {T:TypeId} {l:List α} {A:Option Addr} {cap:Nat} {Hl:HL} (h:SlIs e T l A cap Hl):l.length <= cap:=by
 rcases h with ⟨_,rfl,rfl,_⟩ | ⟨b,o,full,_,_,h1,h2,h3⟩
 ·exact Nat.le_refl _
 ·exact h2
theorem G6 {tk:Int} {j1 j2 bp:Nat} {TB F:HL} {z:Int} (hB:Book2 tk j1 j2 bp TB) (hT:∀ x ∈ TB,x ∈ F) (hj1:j1 < 5) (hj2:j2 < 5) (e:zo tk j1 j2=z):Sp Tryz.prog 17 #[vP bp 0] [] F (λ u H'=>u=.int .u64 z /\ H'=[]):=e ▸ LH hB hT hj1 hj2
theorem LJ {rs_:List Bx} {ds_:List Dr} {bp ev rp n:Nat} {S S2:Setup} {W:Nat -> List Int} {xss:List (List Inp)} {G F:HL} {z:Int} (h:RecH rs_ ds_ bp ev rp S S2 W n xss G) (hF:∀ x ∈ G,x ∈ F) (hev:ev < 128) (hn:n < 128) (hlen:∀ i,i < n -> (xss.getD i []).length <= 10) (BH:Int) (hBH:∀ F',(∀ x ∈ F,x ∈ F') -> Sp Tryz.prog 17 #[vP bp 0] [] F' (λ u H'=>u=.int .u64 BH /\ H'=[])) (e:G5 BH ev n xss W=z):Sp Tryz.prog 15 #[vP rp 0] [] F (λ u H'=>u=.int .u64 z /\ H'=[]):=e ▸ LI h hF hev hn hlen BH hBH
theorem Jp {rs_:List Bx} {ds_:List Dr} {bp ev rp n m:Nat} {S S2:Setup} {W:Nat -> List Int} {xss:List (List Inp)} {G F:HL} (h:RecH rs_ ds_ bp ev rp S S2 W n xss G) (hF:∀ x ∈ G,x ∈ F) (hn:n <= 1000) (e:n / ev=m):Sp Tryz.prog 12 #[vP rp 0] (ap [] []) F (λ u H'=>∃ x:Option Addr × Nat × HL,H'=ap [] [x.2.2] /\ (u=.slice x.1 (m+1) x.2.1 /\ SlIs kB 45 (bq W ev (m+1)) x.1 x.2.1 x.2.2)):=e ▸ AV h hF hn
theorem LK {ev n:Nat} {pl:Int} {xs:List Int} {W:Nat -> List Int} (hn:n <= 100) (hr:n / ev+1 <= 1000) (hx:∀ i,i < n -> ((de pl xs n).getD i []).length <= 10):(j9 ev n (de pl xs n) (bq W ev (n / ev+1))).length <= 1000000:=Nat.le_trans (Ba (by rw [rm];omega) (by rw [dP];exact hr) (λ i hi=>hx i (by rwa [rm] at hi))) (by decide)
theorem xx (A0 AI:Option Addr) (n0 c0 nI cI:Nat) (xs xI:List Int) (i1 i2 i4:Int) (F:HL) (hE0:md F) (hE1:dh F) (hl0:ArgD F A0 n0 xs) (hn0:n0 <= 9223372036854775807) (hl3:ArgD F AI nI xI) (hn3:nI <= 9223372036854775807) (hi1:nq i1) (hi2:nq i2) (hi4:nq i4):Sp Tryz.prog 3 #[.slice A0 n0 c0,vI i1,vI i2,.slice AI nI cI,vI i4] [] F (λ u H'=>u=.bool true /\ H'=[]):=by
 refine Sp.run Tryz.func3 rfl mn (A:=[]) (Ts:=[]) rfl λ w0=>?_
 refine ae 8 [] λ _=>RN.ct (Hp:=[]) (Tp:=[]) [] [] (hl0.up.use λ F_ h_=>EV A0 n0 c0 xs _ h_ hn0) ?_
 rintro _ ⟨S,TS⟩ ⟨rfl,hG⟩
 dsimp only at hG
 have hF:=Ls hl0 hG
 have hpl:=hF.pl
 have hnb:=hF.nb
 have hrn:=hF.rn
 have hdn:=hF.dn
 have hsz:=hF.sz
 have hil:=gw S S.nb
 have hV:SetV S:=hl0.ex.elim λ _ h_=>setV h_ hG
 refine ae 7 (ow 0 16) λ n1=>RN.ct (Hp:=[]) (Tp:=[]) [] [] (rk i1 _ hi1 (aw hE0)) ?_
 rintro _ ⟨b2,T3⟩ ⟨rfl,hB4⟩
 dsimp only at hB4
 have hj1:(au i1 5).toNat < 5:=by have:=cK (n:=i1) hi1 5 (by decide);omega
 have hj2:(au (IntKind.i64.wrap (i1+1)) 5).toNat < 5:=by have:=cK (n:=(IntKind.i64.wrap (i1+1))) (GV _) 5 (by decide);omega
 obtain ⟨j1,ej1⟩:∃ j,(au i1 5).toNat=j:=⟨_,rfl⟩
 obtain ⟨j2,ej2⟩:∃ j,(au (IntKind.i64.wrap (i1+1)) 5).toNat=j:=⟨_,rfl⟩
 rw [ej1] at hj1
 rw [ej2] at hj2
 rw [ej1,ej2] at hB4
 refine ae 8 (ow 0 16) λ _=>?_
 obtain ⟨cnt,hcnt,hcl⟩:∃ cnt:Nat,au i4 10=(cnt:Int) /\ cnt <= 9:=⟨(au i4 10).toNat,by have:=cK (n:=i4) hi4 10 (by decide);omega,by have:=cK (n:=i4) hi4 10 (by decide);omega⟩
 refine RN.ct (Hp:=[]) (Tp:=[]) [] [] (hl3.up.use λ F_ h_=>CS S AI nI cI xI i4 cnt F_ h_ hn3 (by omega) hcnt (by omega)) ?_
 rintro _ ⟨⟨A5,c6,rs7⟩,E8,T9⟩ ⟨rfl,hs10,hl11,hT12⟩
 dsimp only at hs10 hl11 hT12
 have hgr:∀ i,i < cnt -> iK S.players ((de S.players xI cnt).getD i []):=λ i hi=>hl3.ex.elim λ _ h_=>zj h_ (by omega) cnt i hi
 have hcap_:cnt <= c6:=by have h_:=hs10.capL;omega
 refine ae 6 [] λ _=>aj (fW i2 6 (by decide) _) ?_
 have hA13:=cK (n:=i2) hi2 6 (by decide)
 refine ai 10 ([.nw]++ow 0 16) [bd (1+(au i2 6))] λ _=>?_
 obtain ⟨ev1,he1,hev1⟩:∃ ev:Nat,1+(au i2 6)=(ev:Int) /\ (1 <= ev /\ ev <= 60):=⟨(1+(au i2 6)).toNat,by have:=cK (n:=i2) hi2 6 (by decide);omega,by have:=cK (n:=i2) hi2 6 (by decide);omega⟩
 refine RN.ct (Hp:=[]) (Tp:=[]) [] [] (LF S vV (lP (kv xs 3 % 3).toNat) b2 ev1 cnt c6 (Dc 4 j1 j2 0) A5 rs7 (de S.players xI cnt) _ (hG.sin _ (aB 1) (aA 3)).cl (hG.maps.2 _ (aA 3)) hV (by omega) (by omega) (by omega) (by omega) hF.val hev1 (aw hE1) (hs10.rowN (aA 0) hl11) (hT12 _ (aA 1)) (by omega) hgr (λ i hi=>AQ hB4 (aA 2) hj1 hj2 (t:=0+i) (by omega)) he1) ?_
 rintro _ ⟨r14,S15,T16⟩ ⟨rfl,he17,hr18⟩
 dsimp only at he17 hr18
 refine ae 6 [] λ _=>aJ 14 (congrArg (λ v_=>(vI v_:Value)) he1) ?_
 have hdl_:cnt / ev1 <= cnt:=Nat.div_le_self _ _
 obtain ⟨m_ev1,hm_ev1⟩:∃ m,cnt / ev1=m:=⟨_,rfl⟩
 refine ae 10 [] λ _=>RN.ct (Hp:=[]) (Tp:=[]) [] [] (Jp hr18 (aA 0) (n:=cnt) (by omega) hm_ev1) ?_
 rintro _ ⟨A19,c20,T21⟩ ⟨rfl,hs22⟩
 dsimp only at hs22
 obtain ⟨rb23,ro24,rf25,rfl,rfl,-,hc26,hd27⟩:=hs22.open (by rw [dP];omega)
 rw [dP] at hc26 hd27
 refine ve 0 (x:=(rb23,.rows 1 (ro24+c20) (aZ kB rf25) 45 (0,0)))<|ai 12 [.nw] [0 <= (cnt:Int) /\ (0:Int) < (ev1:Int) /\ (cnt:Int) <= 9223372036854775807] λ _=>aJ 46 (congrArg (λ v_=>(vI v_:Value)) (show (cnt:Int) / (ev1:Int)=(m_ev1:Int) by rw [<- hm_ev1];first | rfl | norm_cast))<|ai 4 [.nw] [bd ((m_ev1:Int)+1)] λ _=>RN.en ((((m_ev1+1):Nat):Int)=(m_ev1:Int)+1) 48 (λ h28=>?_) λ h28=>?_
 ·refine ae 10 [] λ _=>RN.loop (σ:=Nat) (λ i_=>⟨[(12,vP b2 0),(14,vI (ev1:Int)),(15,vP r14 0),(16,vS rb23 (ro24 * 1) (m_ev1+1) c20),(17,vI (i_:Int))],[(rb23,.rows 1 (ro24+c20) (aZ kB rf25) 45 (0,0)),((n1+0),.lit (Setup.l S) 31 (0,0)),(S.bb,.rows 9 S.bR (iy S.bods) 78 (0,0))],[T16,E8,T9,T3,TS],i_ <= m_ev1+1,m_ev1+1 - i_⟩) 0 [0,1,2] [0,1,2,3,4] (Nat.zero_le _) ?_
  rintro i_ hi_ mt30
  refine ae 9 [] λ _=>RN.em ((i_:Int) < (((m_ev1+1):Nat):Int)) 52 (λ h31=>?_) λ h31=>?_
  ·refine ae 10 [] λ _=>?_
   have hie_:i_ * ev1 <= cnt:=Nat.le_trans (Nat.mul_le_mul_right _ (show i_ <= cnt / ev1 by omega)) (Nat.div_mul_le_self _ _)
   have hmd_:((i_ * ev1:Nat):Int) % ((ev1:Nat):Int)=0:=by rw [<- Int.natCast_emod,Nat.mul_mod_left];rfl
   have hwi_:=uB (J:=(Dc 4 j1 j2 0)) hV (uz S) (n:=cnt) (by omega) hgr (i:=i_ * ev1) (by omega)
   refine ai 1 [.nw] [bd ((i_:Int) * (ev1:Int))] λ _=>aJ 59 (congrArg (λ v_=>(vI v_:Value)) (Int.natCast_mul i_ ev1).symm)<|RN.ct (Hp:=[]) (Tp:=[]) [] [] (J3 (t:=(i_ * ev1)) hr18 (aA 0) hV (by omega) (by omega) (by omega) hF.val hev1 (aw hE1) (by omega) hgr (λ i hi=>AQ hB4 (aA 3) hj1 hj2 (t:=0+i) (by omega)) (by omega)) ?_
   rintro _ q32 rfl
   refine ae 10 [] λ _=>RN.draw [] []<|ag [] [0,1,2,3,4,5,6] []<|Dt 70 (nt (decide_eq_true hmd_))<|aH [] [7,9,10,11,12] [.ix i_,.row 1 (ro24+i_) 0] [(ro24 * 1+i_ * 1)=(ro24+i_) * 1+0 /\ (ro24+i_) < (ro24+c20),(i_:Int)=((i_:Nat):Int) /\ i_ < (m_ev1+1)]<|ar [] 8 (λ X_=>(tz q32 (WS S (Dc 4 j1 j2 0) (de S.players xI cnt) (i_ * ev1)).length (WS S (Dc 4 j1 j2 0) (de S.players xI cnt) (i_ * ev1)) _ (im 0) (Nat.le_refl _) (by omega)))<|kZ 76 (congrArg (λ v_=>(.int .u64 v_:Value)) ((hd27 i_ (by omega)).trans (rv (W:=(WS S (Dc 4 j1 j2 0) (de S.players xI cnt))) (ev:=ev1) (m:=m_ev1+1) (k:=i_) (by omega))))<|ag [] [13,14] []<|RD.fin<|ae 1 [] λ _=>RN.en (fN (WS S (Dc 4 j1 j2 0) (de S.players xI cnt) (i_ * ev1))=fN (WS S (Dc 4 j1 j2 0) (de S.players xI cnt) (i_ * ev1))) 78 (λ h33=>?_) λ h33=>?_
   ·refine ai 9 [.nw] [bd ((i_:Int)+1)] λ _=>?_
    refine mt30 (i_+1) [1,2,3] [0,1,2,3,4] ?_
    try dsimp only
    exact ⟨by omega,by omega⟩
   ·exact absurd rfl h33
  ·refine ae 9 [] λ _=>?_
   obtain ⟨BZ,hBZ⟩:∃ z,zo 4 j1 j2=z:=⟨_,rfl⟩
   obtain ⟨y34,hy34⟩:∃ z,G5 BZ ev1 cnt (de S.players xI cnt) (WS S (Dc 4 j1 j2 0) (de S.players xI cnt))=z:=⟨_,rfl⟩
   refine aj (LJ hr18 (aA 0) (Nat.lt_of_le_of_lt hev1.2 (by decide)) (by omega) (λ i hi=>by have h_:=(hgr i hi).1;omega) BZ (λ F_ hF_=>G6 hB4 (λ x hx=>hF_ x ((aA 3) x hx)) hj1 hj2 hBZ) hy34)<|ae 1 [] λ _=>aj (G6 hB4 (aA 3) hj1 hj2 hBZ)<|ae 3 [] λ _=>RN.ct (Hp:=[]) (Tp:=[]) [] [] (NH hr18 (aA 0) (Nat.lt_of_le_of_lt hev1.2 (by decide)) (by omega) (λ i hi=>by have h_:=(hgr i hi).1;omega)) ?_
   rintro _ ⟨A35,c36,T37⟩ ⟨rfl,hs38⟩
   dsimp only at hs38
   obtain ⟨z39,hz39⟩:∃ z,oO ⟨#[114,101,112,108,97,121]⟩ (j9 ev1 cnt (de S.players xI cnt) (bq (WS S (Dc 4 j1 j2 0) (de S.players xI cnt)) ev1 (cnt / ev1+1)))=z:=⟨_,rfl⟩
   refine aj (xw hz39 A35 _ c36 _ (by decide) (LK (by omega) (by omega) (λ i hi=>by have h_:=(hgr i hi).1;omega)) (hs38.rowN (aA 0) rfl))<|ae 2 [] λ n40=>RN.dn 0 (.rows 1 3 (aK [IntKind.i64.wrap BZ,(ev1:Int),IntKind.i64.wrap z39]) 3 (0,0))<|aj (kL (⟨#[114,101,112,108,97,121]⟩) ([IntKind.i64.wrap BZ,(ev1:Int),IntKind.i64.wrap z39]) (n40+0) 3 _ (by decide) (Nat.le_of_ble_eq_true rfl) (Nat.le_of_ble_eq_true rfl) (aB 0))<|ae 2 [] λ _=>RN.em (y34=ky (⟨#[114,101,112,108,97,121]⟩) ([IntKind.i64.wrap BZ,(ev1:Int),IntKind.i64.wrap z39])) 92 (λ h41=>?_) λ h41=>?_
   ·refine aj (xm _ (aw hE0) (aw hE1))<|ae 4 [] λ _=>?_
    exact RN.ret [] [] [] ⟨rfl,rfl⟩
   ·exact absurd (by rw [<- hy34,<- hz39];rfl) h41
 ·(exfalso;omega)
open Go.ChangeShapes Go.WideShapes Go.ChangeAt
theorem G7:ownKnob Tryz.prog.godebug=none:=by kernel_rfl
theorem G8:laidOutB Tryz.prog=true:=by kernel_rfl
theorem lL {n:Int} (h:(Lit.int .i64 n).wf=true):-9223372036854775808 <= n /\ n <= 9223372036854775807:=bounds_i64 h
section
variable {H:Type} {enc:TypeId × Value -> H} {P:Program} {W W':World}
theorem mf (hl:laidOutB P=true) (hb:Below W.heap.size W W'):∀ {ts:List TypeId} {vs:List Value} {ds:List (DataW H)} {ps:List MemPlace},(∀ t ∈ ts,P.readableRec t=true /\ t < P.types.size) ->
  DataW.TrodAll enc P W 0 (λ _=>true) true ts vs ds ps -> (∀ x ∈ ps,x.block < W.heap.size) -> DataW.TrodAll enc P W' 0 (λ b=>decide (b < W.heap.size)) true ts vs ds ps
 | [],_,_,_,_,h,_=>by
  obtain ⟨rfl,rfl,rfl⟩:=trodAll_nil h
  exact trodAll_mk0
 | t :: ts,_,_,_,ht,h,hlt=>by
  obtain ⟨v,vs1,d,ds1,a,b,rfl,rfl,rfl,h1,h2⟩:=trodAll_cons h
  have h3:=ht t (by simp)
  exact trodAll_cons_mk (Below.trod hl h3.1 h3.2 h1 hb (λ x hx=>hlt x (by simp [hx]))) (mf hl hb (λ t h=>ht t (List.mem_cons_of_mem _ h)) h2 (λ x hx=>hlt x (by simp [hx])))
theorem G9 {f:Func} {s:ChangeSpec} {apart fresh handsOn:Bool} {args:Array Value} {v:Value} {ds:List (DataW H)} {before:List MemPlace} (hl:laidOutB P=true)
  (hts:∀ t ∈ f.params.toList,P.readableRec t=true /\ t < P.types.size)
  (hW:DataW.Whole enc P f.params.toList s.vars apart W args.toList ds [] before) (hs:s.vars=[])
  (hA:DataW.TrodAll enc P W 0 (λ _=>true) true f.params.toList args.toList ds before)
  (hres:∀ (b:Nat) (sp:Nat -> Bool) (hd:Bool),DataW.TrodAll enc P W' b sp hd f.resultTypes.toList (v.resultList f.resultTypes.size) (s.fn H (ds++[])).results [])
  (hargs:(s.fn H (ds++[])).args=ds) (hvars:∀ sp,DataW.TrodVars enc P W' sp s.vars (s.fn H (ds++[])).vars []) (hb:Below W.heap.size W W') :
  s.post enc P f apart fresh handsOn false W args v W':=by
 refine ⟨ds,[],before,[],before,[],hW,hres _ _ _,?_,hvars _,hb.frame _,λ h=>by cases h⟩
 rw [hargs]
 exact mf hl hb hts hA (λ x hx=>hW.lt x hx)
end
def rB:Obj -> Blk
 | .cells cs ty fz=>.rows 1 cs.size (λ i _=>cs.getD i default) ty fz
 | o=>.obj o
theorem lM (o:Obj):(rB o).den=o:=by
 cases o with
 | cells cs ty fz =>
  show Obj.cells ⟨bA 1 (λ i _=>cs.getD i default) cs.size⟩ ty fz=_
  congr 1
  have e:bA 1 (λ i _=>cs.getD i default) cs.size=cs.toList:=by
   refine ia (by simp) ?_
   intro i k hi hk
   obtain rfl:k=0:=by omega
   simp [Array.getD,hi]
  rw [e]
 | _=>rfl
def lc (w:World):HL:=List.ofFn (λ k:Fin w.heap.size=>(k.1,rB w.heap[k.1]))
theorem rC {w:World} {k:Nat} {o:Obj} (h:w.heap[k]?=some o):(k,rB o) ∈ lc w:=by
 obtain ⟨hk,he⟩:=Array.getElem?_eq_some_iff.1 h
 exact List.mem_ofFn.2 ⟨⟨k,hk⟩,by simp [he]⟩
theorem zp (w:World):Rel (lc w) w:=by
 refine ⟨λ x hx=>?_,?_⟩
 ·obtain ⟨k,rfl⟩:=List.mem_ofFn.1 hx
  simp [lM]
 ·unfold lc
  rw [List.map_ofFn]
  have e:List.ofFn ((λ x:Nat × Blk=>x.1) ∘ λ k:Fin w.heap.size=>(k.1,rB w.heap[k.1]))=List.range w.heap.size:=by
   apply List.ext_getElem
   ·simp
   ·intro i h1 h2;simp
  rw [e]
  exact List.nodup_range
theorem C4 {P:Program} {f:FuncId} {args:Array Value} {v:Value} (w:World) (h:Sp P f args [] (lc w) (λ u H'=>u=v /\ H'=[])):Calls P f args w λ e w'=>e=.returned v /\ Below w.heap.size w w':=by
 refine (h w (zp w)).mono ?_
 rintro e w' ⟨u,H',rfl,⟨rfl,rfl⟩,hR',hB⟩
 refine ⟨rfl,hB.os,hB.tape,hB.output,hB.size,λ k hk=>?_⟩
 have:=hR'.holds (k,rB w.heap[k]) (by rw [List.nil_append];exact rC (by simp [hk]))
 rw [this]
 simp [lM,hk]
theorem xy {H:Type} {enc:TypeId × Value -> H} {w:World} {r:Reach} {b0:Nat} {v:Value} {d:DataW H} {ps:List MemPlace} (hval:Value.okWide Tryz.prog w r b0 22 v) (hd:DataW.Trod enc Tryz.prog w 0 (λ _=>true) true 22 v d ps) :
  ∃ (A:Option Addr) (n cap:Nat) (xs:List Int),v=.slice A n cap /\ n <= 9223372036854775807 /\ ArgL (lc w) A n xs /\ n <= cap:=by
 obtain ⟨a0,len,cap,rfl⟩:=okWide_slice Tryz.underlying22 hval
 obtain ⟨fuel,hf⟩:=hd
 rcases open_ints Tryz.underlying22 Tryz.underlying3 (by kernel_rfl) hf with ⟨hcs,hx⟩ | ⟨a,len',cap',zs,hcs,_,hl,hm,hz,hx,hcell,hwz⟩
 ·simp [Value.cells] at hcs
  obtain ⟨rfl,rfl,rfl⟩:=hcs
  exact ⟨none,0,0,[],rfl,by omega,.zero _,Nat.le_refl _⟩
 ·simp [Value.cells] at hcs
  obtain ⟨rfl,rfl,rfl⟩:=hcs
  unfold maxLen at hm
  simp at hz
  rcases Nat.eq_zero_or_pos len with h0 | hpos
  ·subst h0
   exact ⟨some a,0,_,[],rfl,by omega,.zero _,Nat.zero_le _⟩
  ·have hlz:len <= zs.length:=by omega
   obtain ⟨b,off,spot⟩:=a
   have c0:=hcell 0 (by omega)
   have hsp:spot=none:=by
    cases spot with
    | none=>rfl
    | some s=>simp [Addr.add,World.cell?] at c0;split at c0 <;> simp at c0
   subst hsp
   have hc:∀ i,i < zs.length -> w.cell? ⟨b,off+i,none⟩=some (.int .i64 (zs.getD i 0)):=λ i hi=>by
    have:=hcell i hi
    unfold Addr.add at this
    by_cases h:i=0
    ·subst h;simpa using this
    ·rw [if_neg h] at this;exact this
   have h0:=hc 0 (by omega)
   unfold World.cell? at h0
   split at h0
   case h_2=>cases h0
   rename_i cs ty fz hb
   refine ⟨some ⟨b,off,none⟩,len,cap,zs.take len,rfl,by omega,?_,hl⟩
   have hlen:(zs.take len).length=len:=by rw [List.length_take];omega
   have hcs:∀ k,k < len -> cs[off+k]?=some (vI ((zs.take len).getD k 0)):=λ k hk=>by
    have h1:=hc k (by omega)
    unfold World.cell? at h1
    rw [show w.heap[(⟨b,off+k,none⟩:Addr).block]?=some (.cells cs ty fz) from hb] at h1
    have h2:cs[off+k]?=some (.int .i64 (zs.getD k 0)):=by simpa using h1
    rw [h2]
    simp [List.getD_eq_getElem?_getD,List.getElem?_take,hk]
   have hmem:=rC hb
   have hle:off+len <= cs.size:=by
    have h1:=hcs (len - 1) (by omega)
    have h2:=(Array.getElem?_eq_some_iff.1 h1).1
    omega
   have:=ArgL.cells (F:=lc w) b off cs.size (λ i _=>cs.getD i default) ty fz (zs.take len) hmem (by rw [hlen];exact hle) (λ k hk=>by
    rw [hlen] at hk
    have h1:=hcs k hk
    simp only [Array.getD_eq_getD_getElem?]
    rw [h1];rfl) (λ k hk=>by
    rw [hlen] at hk
    have:(zs.take len).getD k 0 ∈ zs:=by
     rw [List.getD_eq_getElem?_getD,List.getElem?_eq_getElem (by omega)]
     exact List.mem_of_mem_take (List.getElem_mem _)
    exact lL (hwz _ this))
   rw [hlen] at this
   exact this
theorem r7 {H:Type} {enc:TypeId × Value -> H} {P:Program} {w:World} {base:Nat} {sp:Nat -> Bool} {held:Bool} {fuel:Nat} {t e:TypeId} {n m:Nat} {k:IntKind} {fs:Array Field} {cs:List Value} {zs:List (List Int)} {p:List MemPlace}
  (ht:P.underlying t=some (.array n e)) (he:P.underlying e=some (.struct fs)) (hce:P.cellsOf e=m) (hct:P.cellsOf t=n * m) (hm:0 < m) (hfl:fs.toList.length=m)
  (hf:∀ (j:Nat) f,fs.toList[j]?=some f -> P.underlying f.type=some (.int k) /\ P.cellsOf f.type=1 /\ f.offset=j) (hz:∀ z ∈ zs,z.length=m)
  (h:DataW.trod enc P w base sp held fuel t cs=some (.agg (zs.map λ z=>.agg (z.map λ x=>.lit (.int k x))),p)) :
  cs.length=n * m /\ zs.length=n /\ ∀ i j,i < n -> j < m -> cs[i * m+j]?=some (.int k ((zs.getD i []).getD j 0)):=by
 cases fuel with
 | zero=>simp [DataW.trod] at h
 | succ fuel =>
  simp only [DataW.trod,ht,hce,hct] at h
  split at h
  case isFalse=>cases h
  rename_i hl
  obtain ⟨xs,hmm,hx⟩:=Option.map_eq_some_iff.1 h
  have hxs:xs.map (·.1)=zs.map λ z=>(DataW.agg (z.map λ x=>.lit (.int k x)):DataW H):=by
   have:=congrArg Prod.fst hx
   simpa using this
  have hxl:xs.length=n:=by simpa using Lib.mapM_length hmm
  have hzl:zs.length=n:=by
   have:=congrArg List.length hxs
   simp at this
   omega
  refine ⟨hl,hzl,λ i j hi hj=>?_⟩
  obtain ⟨b,hb,hfb⟩:=Lib.mapM_at hmm i i (by simp [hi])
  have hbz:b.1=.agg ((zs.getD i []).map λ x=>.lit (.int k x)):=by
   have h2:(xs.map (·.1))[i]?=some b.1:=by simp [hb]
   rw [hxs,List.getElem?_map,List.getElem?_eq_getElem (by omega)] at h2
   simp only [Option.map_some,Option.some.injEq] at h2
   rw [<- h2,List.getD_eq_getElem?_getD,List.getElem?_eq_getElem (by omega)]
   rfl
  have hzi:(zs.getD i []).length=m:=by
   rw [List.getD_eq_getElem?_getD,List.getElem?_eq_getElem (by omega)]
   exact hz _ (List.getElem_mem _)
  cases fuel with
  | zero=>simp [DataW.trod] at hfb
  | succ fuel =>
   have hfb':=hfb
   simp only [DataW.trod,he,hce] at hfb'
   split at hfb'
   case isFalse=>cases hfb'
   rename_i hcl
   obtain ⟨ys,hym,hy⟩:=Option.map_eq_some_iff.1 hfb'
   have hys:ys.map (·.1)=(zs.getD i []).map λ x=>(DataW.lit (.int k x):DataW H):=by
    have:=congrArg Prod.fst hy
    rw [hbz] at this
    simpa using this
   have hfj:fs.toList[j]?=some (fs.toList[j]'(by omega)):=List.getElem?_eq_getElem (by omega)
   obtain ⟨c,hc,hfc⟩:=Lib.mapM_at hym j _ hfj
   obtain ⟨f1,f2,f3⟩:=hf j _ hfj
   rw [f2,f3] at hfc
   obtain ⟨x,hcx,hcd,_⟩:=DataW.trod_int f1 hfc
   have h1:(((cs.drop (i * m)).take m).drop j).take 1=[.int k x]:=hcx
   have h2:cs[i * m+j]?=some (.int k x):=by
    have:=congrArg (·[0]?) h1
    simpa [List.getElem?_take,List.getElem?_drop,hj] using this
   have h3:(ys.map (·.1))[j]?=some (DataW.lit (.int k x):DataW H):=by simp [hc,hcd]
   rw [hys,List.getElem?_map,List.getElem?_eq_getElem (by omega)] at h3
   simp only [Option.map_some,Option.some.injEq,DataW.lit.injEq,Lit.int.injEq,true_and] at h3
   have h4:∀ l:List Int,(hl:j < l.length) -> l[j]=l.getD j 0:=λ l hl=>by simp [List.getD_eq_getElem?_getD,hl]
   rw [h2,<- h3,h4 _ (by omega)]
theorem kc {H:Type} {enc:TypeId × Value -> H} {a:Assume} {C:Checked} {os:Os} {f:FuncId} {fn:Func} {s:ChangeSpec} {conds:List PathCond} {apart fresh handsOn again:Bool} {X:World -> Array Value -> Prop}
  (hX:∀ (w w':World) (args:Array Value),w.heap=w'.heap -> X w args -> X w' args)
  (own:ownKnob C.prog.godebug=none) (started:os.Started) (noInit:C.prog.inits.idxOf? f=none) (hfn:C.prog.funcs[f]?=some fn)
  (witness:∃ (w:World) (tape:Tape) (i:Input),w.os=os /\ (w.forCall tape i).Shaped C.prog /\ i.vars=[] /\ Input.okWide C.prog (w.forCall tape i) .any w.heap.size f i /\
   ((s.pre enc C.prog fn conds apart (w.forCall tape i).memory i.args /\ X (w.forCall tape i).memory i.args) /\ sizedMet enc C.prog fn (OpenSpec.ofChange s) apart (w.forCall tape i).memory i.args) /\ a.holds C.prog (lone (Frame.enter C.prog f i.args .normal) [] (w.forCall tape i)))
  (contract:∀ (W:World) (base:Nat) (args:Array Value) (ds gs:List (DataW H)) (before:List MemPlace),W.ShapedOpen C.prog ->
   (∀ (j:Nat) t v,fn.params[j]?=some t -> args[j]?=some v -> Value.okWide C.prog W .any base t v) ->
   DataW.Whole enc C.prog fn.params.toList s.vars apart W args.toList ds gs before -> X W args ->
   Calls C.prog f args W λ e W'=>∃ v,e=.returned v /\ s.post enc C.prog fn apart fresh handsOn again W args v W') :
  ReturnsInHanded a C os f .any (λ w args=>(s.pre enc C.prog fn conds apart w args /\ X w args) /\ sizedMet enc C.prog fn (OpenSpec.ofChange s) apart w args) (s.post enc C.prog fn apart fresh handsOn again):=by
 refine returnsInHanded_of_calls own started noInit witness ?_
 intro w tape i _ hsh _ hok hpre hholds
 obtain ⟨_,_,_,fn',hfn',_,_,_,_,hval⟩:=hok
 have e:fn'=fn:=Option.some.inj (hfn'.symm.trans hfn)
 subst e
 obtain ⟨⟨⟨ds,gs,before,hw,hc⟩,hx⟩,hz⟩:=hpre
 have hw':=DataW.Whole.of_heap (w':=w.forCall tape i) (by rfl) hw
 refine (contract (w.forCall tape i) w.heap.size i.args ds gs before hsh hval hw' (hX _ _ _ (by rfl) hx)).mono λ e W' ⟨v,he,hp⟩=>?_
 subst he
 exact ChangeSpec.post_blind hp
def ceZ:List (List Int):=[[0,0],[0,1],[0,1],[1,0],[1,1],[2,0],[0,1],[0,1],[0,1],[2,1],[2,1],[2,1],[2,1],[1,1],[2,1],[2,1],[2,1],[1,1],[0,0],[1,0],[2,0],[0,0]]
def Bb:Nat -> Nat -> Value:=λ i j=>.int .i64 ((ceZ.getD i []).getD j 0)
theorem Hb:(Blk.rows 2 22 Bb 259 (0,0)).den=(Blk.lit uw 259 (0,0)).den:=by kernel_rfl
def efZ:List (List Int):=m9.map λ z=>[z.1,z.2.1,z.2.2]
theorem xz (g:Nat) (t:TypeId) (hg:g < Tryz.prog.globals.size) (h0:(((begin Tryz.prog (λ _ _=>0) default).world.heap[g]?).bind Obj.row?).map (·.2)=some t) {W:World} (hs:W.ShapedOpen Tryz.prog):∃ cs,W.heap[g]?=some (.cells cs t (0,0)):=by
 cases h:((begin Tryz.prog (λ _ _=>0) default).world.heap[g]?).bind Obj.row? with
 | none=>rw [h] at h0;cases h0
 | some x =>
  obtain ⟨z,t'⟩:=x
  rw [h] at h0
  simp only [Option.map_some,Option.some.injEq] at h0
  subst h0
  obtain ⟨cs,h1,_⟩:=hs.1 g z t' hg h
  exact ⟨cs,h1⟩
def Hc (P:Program) (e:TypeId) (m:Nat):Bool :=
 match P.underlying e with
 | some (.struct fs)=>decide (fs.toList.length=m) && (List.range m).all λ j =>
  match fs.toList[j]? with
  | some f=>(match P.underlying f.type with | some (.int .i64)=>true | _=>false) && decide (P.cellsOf f.type=1) && decide (f.offset=j)
  | none=>false
 | _=>false
theorem C5 {P:Program} {e:TypeId} {m:Nat} (h:Hc P e m=true):∃ fs:Array Field,P.underlying e=some (.struct fs) /\ fs.toList.length=m /\
  ∀ (j:Nat) f,fs.toList[j]?=some f -> P.underlying f.type=some (.int .i64) /\ P.cellsOf f.type=1 /\ f.offset=j:=by
 unfold Hc at h
 split at h
 case h_2=>cases h
 rename_i fs hfs
 rw [Bool.and_eq_true] at h
 have hm:fs.toList.length=m:=of_decide_eq_true h.1
 refine ⟨fs,hfs,hm,λ j f hj=>?_⟩
 have hjm:j < m:=by rw [<- hm];exact (List.getElem?_eq_some_iff.1 hj).1
 have h2:=List.all_eq_true.1 h.2 j (List.mem_range.2 hjm)
 rw [hj] at h2
 simp only [Bool.and_eq_true,decide_eq_true_eq] at h2
 refine ⟨?_,h2.1.2,h2.2⟩
 have h3:=h2.1.1
 split at h3
 ·assumption
 ·cases h3
theorem Bc {P:Program} {W:World} {name:String} {g n m:Nat} {t e:TypeId} {zs:List (List Int)} {rest:List (String × DataW Unit)} {ps:List MemPlace} {row:Nat -> Nat -> Value} {cs0:Array Value}
  (hb:W.heap[g]?=some (.cells cs0 t (0,0)))
  (hg:P.globalNamed name=some g) (hty:(P.globals[g]?).map (·.type)=some t) (ht:P.underlying t=some (.array n e)) (hE:Hc P e m=true) (hce:P.cellsOf e=m) (hct:P.cellsOf t=n * m) (hm:0 < m) (hz:∀ z ∈ zs,z.length=m)
  (hrow:∀ i j,i < n -> j < m -> row i j=.int .i64 ((zs.getD i []).getD j 0))
  (h:DataW.LaidVars P W ((name,.agg (zs.map λ z=>.agg (z.map λ x=>.lit (.int .i64 x)))) :: rest) ps):W.heap[g]?=some (Blk.rows m n row t (0,0)).den /\ ∃ q,DataW.LaidVars P W rest q:=by
 obtain ⟨fs,he,hfl,hf⟩:=C5 hE
 obtain ⟨g',t',cs,fuel,p,q,hg',ht',hvar,hd,hr,_⟩:=h
 obtain rfl:=Option.some.inj (hg.symm.trans hg')
 obtain rfl:=Option.some.inj (hty.symm.trans ht')
 have hv:W.var? P name=some cs0:=by
  unfold World.var?
  rw [hg]
  simp only [Option.bind_some,hb]
 obtain rfl:=Option.some.inj (hv.symm.trans hvar)
 obtain ⟨h1,h2,h3⟩:=r7 ht he hce hct hm hfl hf hz hd
 refine ⟨?_,q,hr⟩
 rw [hb]
 show some (Obj.cells cs0 t (0,0))=some (Obj.cells ⟨bA m row n⟩ t (0,0))
 congr 2
 obtain ⟨l⟩:=cs0
 congr 1
 symm
 exact ia (w:=m) h1 λ i j hi hj=>by rw [hrow i j hi hj];exact h3 i j hi hj
theorem Jq {W:World} (hs:W.ShapedOpen Tryz.prog) (hL:laidMetH Tryz.prog [("arenanet/compile.effects",Rows.laid_arenanet_compile_effects),("arenanet/vm.effects",Rows.laid_arenanet_vm_effects)] W):W.heap[1]?=some (Blk.lit uw 259 (0,0)).den /\ W.heap[2]?=some (Blk.rows 3 22 mt 325 (0,0)).den:=by
 rw [MakeChecks.laidMetH_plain _ _ _ (by kernel_rfl)] at hL
 obtain ⟨ps,hv,_,_⟩:=hL
 obtain ⟨cs0,hb0⟩:=xz 1 259 (of_decide_eq_true (by kernel_rfl)) (by kernel_rfl) hs
 obtain ⟨cs1,hb1⟩:=xz 2 325 (of_decide_eq_true (by kernel_rfl)) (by kernel_rfl) hs
 have hv0:DataW.LaidVars Tryz.prog W (("arenanet/compile.effects",.agg (ceZ.map λ z=>.agg (z.map λ x=>.lit (.int .i64 x)))) :: [("arenanet/vm.effects",.agg (efZ.map λ z=>.agg (z.map λ x=>.lit (.int .i64 x))))]) ps:=hv
 obtain ⟨h0,q,hq⟩:=Bc (n:=22) (m:=2) (e:=258) (row:=Bb) hb0 (by kernel_rfl) (by kernel_rfl) (by kernel_rfl) (by kernel_rfl) (by kernel_rfl) (by kernel_rfl) (by decide) (by decide) (λ i j hi hj=>rfl) hv0
 obtain ⟨h1,_⟩:=Bc (n:=22) (m:=3) (e:=324) (row:=mt) hb1 (by kernel_rfl) (by kernel_rfl) (by kernel_rfl) (by kernel_rfl) (by kernel_rfl) (by kernel_rfl) (by decide) (by decide) (λ i j hi hj=>by
  have key:∀ i:Fin 22,∀ j:Fin 3,(if j.1=0 then (m9.getD i.1 (0,0,0)).1 else if j.1=1 then (m9.getD i.1 (0,0,0)).2.1 else (m9.getD i.1 (0,0,0)).2.2)=(efZ.getD i.1 []).getD j.1 0:=by decide
  have:=key ⟨i,hi⟩ ⟨j,hj⟩
  rcases j with _ | _ | _ | j
  ·exact congrArg (Value.int .i64) this
  ·exact congrArg (Value.int .i64) this
  ·exact congrArg (Value.int .i64) this
  ·omega) hq
 exact ⟨h0.trans (congrArg some Hb),h1⟩
def rD (W:World):HL:=List.ofFn (λ k:Fin W.heap.size=>(k.1,if k.1=1 then Blk.lit uw 259 (0,0) else if k.1=2 then Blk.rows 3 22 mt 325 (0,0) else rB W.heap[k.1]))
theorem zq {W:World} (h0:W.heap[1]?=some (Blk.lit uw 259 (0,0)).den) (h1:W.heap[2]?=some (Blk.rows 3 22 mt 325 (0,0)).den):dJ (lc W)=dJ (rD W):=by
 unfold dJ lc rD
 rw [List.map_ofFn,List.map_ofFn]
 congr 1
 funext k
 show (k.1,(rB W.heap[k.1]).den)=(k.1,Blk.den (if k.1=1 then _ else if k.1=2 then _ else _))
 rw [lM]
 congr 1
 by_cases e0:k.1=1
 ·rw [if_pos e0]
  have h2:W.heap[k.1]?=some (Blk.lit uw 259 (0,0)).den:=by rw [show W.heap[k.1]?=W.heap[1]? by rw [e0]];exact h0
  rw [Array.getElem?_eq_getElem k.2] at h2
  exact Option.some.inj h2
 ·rw [if_neg e0]
  by_cases e1:k.1=2
  ·rw [if_pos e1]
   have h2:W.heap[k.1]?=some (Blk.rows 3 22 mt 325 (0,0)).den:=by rw [show W.heap[k.1]?=W.heap[2]? by rw [e1]];exact h1
   rw [Array.getElem?_eq_getElem k.2] at h2
   exact Option.some.inj h2
  ·rw [if_neg e1,lM]
theorem He {W:World} (h0:W.heap[1]?=some (Blk.lit uw 259 (0,0)).den):md (rD W) :=
 List.mem_ofFn.2 ⟨⟨1,(Array.getElem?_eq_some_iff.1 h0).1⟩,rfl⟩
theorem Hf {W:World} (h1:W.heap[2]?=some (Blk.rows 3 22 mt 325 (0,0)).den):dh (rD W) :=
 List.mem_ofFn.2 ⟨⟨2,(Array.getElem?_eq_some_iff.1 h1).1⟩,rfl⟩
noncomputable def C6 (os:Os):World:=World.laidAll Tryz.prog os Rows.replayRootsRow.laid
theorem rE (os:Os) (started:os.Started) (H:Type) (enc:TypeId × Value -> H) :
  ReturnsInHanded {} Tryz.checked os 3 .any (λ w args=>(Rows.replayRootsSpec.pre enc Tryz.prog Tryz.f3 [] false w args /\ laidMetH Tryz.prog Rows.replayRootsRow.laid w) /\ sizedMet enc Tryz.prog Tryz.f3 (OpenSpec.ofChange Rows.replayRootsSpec) false w args)
   (Rows.replayRootsSpec.post enc Tryz.prog Tryz.f3 false true false false):=by
 refine kc (C:=Tryz.checked) (X:=λ w _=>laidMetH Tryz.prog Rows.replayRootsRow.laid w) (λ _ _ _ hh h=>h.of_heap hh) G7 started (by kernel_rfl) Tryz.func3
  (ChangeSpec.witness_at (enc:=enc) (C:=Tryz.checked) (os:=os) (X:=λ w _=>laidMetH Tryz.prog Rows.replayRootsRow.laid w) false (C6 os) #[.slice none 0 0,.int .i64 0,.int .i64 0,.slice none 0 0,.int .i64 0] 8 (World.laidAll_os _ _ _) (by kernel_rfl) (by kernel_rfl) (by kernel_rfl) (by kernel_rfl) (by kernel_rfl) (laidMetH_of_parts (laidMet_laidAll _ (by kernel_rfl) (by kernel_rfl)) (by kernel_rfl))) ?_
 intro W base args ds gs before hsh hval0 hW hL
 have hval:∀ (j:Nat) t v,Tryz.f3.params[j]?=some t -> args[j]?=some v -> Value.okWide Tryz.prog W .any base t v:=hval0
 have hW':=hW
 obtain ⟨p,q,hA0,hV,rfl,hfz,hnd⟩:=hW
 have hA:DataW.TrodAll enc Tryz.prog W 0 (λ _=>true) true Tryz.f3.params.toList args.toList ds p:=hA0
 have hAA:=hA
 rw [Tryz.params3] at hA hval
 obtain ⟨v0,vs0,d0,ds0,p0,q0,hargs,rfl,rfl,h0r,r0⟩:=trodAll_cons hA
 obtain ⟨v1,vs1,d1,ds1,p1,q1,rfl,rfl,rfl,h1r,r1⟩:=trodAll_cons r0
 obtain ⟨v2,vs2,d2,ds2,p2,q2,rfl,rfl,rfl,h2r,r2⟩:=trodAll_cons r1
 obtain ⟨v3,vs3,d3,ds3,p3,q3,rfl,rfl,rfl,h3r,r3⟩:=trodAll_cons r2
 obtain ⟨v4,vs4,d4,ds4,p4,q4,rfl,rfl,rfl,h4r,r4⟩:=trodAll_cons r3
 obtain ⟨rfl,rfl,rfl⟩:=trodAll_nil r4
 obtain rfl:args=#[v0,v1,v2,v3,v4]:=by cases args;simp_all
 obtain ⟨rfl,rfl⟩:=trodVars_none hV
 obtain ⟨A0,n0,c0,x0,rfl,b0,h0,k0⟩:=xy (hval 0 22 v0 rfl rfl) h0r
 obtain ⟨a1,rfl,rfl,rfl,w1z⟩:=open_int Tryz.underlying3 (hval 1 3 v1 rfl rfl) h1r
 have w1:=lL w1z
 obtain ⟨a2,rfl,rfl,rfl,w2z⟩:=open_int Tryz.underlying3 (hval 2 3 v2 rfl rfl) h2r
 have w2:=lL w2z
 obtain ⟨A3,n3,c3,x3,rfl,b3,h3,k3⟩:=xy (hval 3 22 v3 rfl rfl) h3r
 obtain ⟨a4,rfl,rfl,rfl,w4z⟩:=open_int Tryz.underlying3 (hval 4 3 v4 rfl rfl) h4r
 have w4:=lL w4z
 clear hA0 hval0
 simp only [List.append_nil,List.nil_append] at hW' hAA
 obtain ⟨g0,g1⟩:=Jq hsh hL
 have eW:=zq g0 g1
 refine (C4 W ((xx A0 A3 n0 c0 n3 c3 x0 x3 a1 a2 a4 (rD W) (He g0) (Hf g1) (h0.d eW) b0 (h3.d eW) b3 w1 w2 w4).den eW.symm)).mono λ e W' ⟨he,hb⟩=>?_
 subst he
 exact ⟨_,rfl,G9 G8 (by rw [Tryz.params3];intro t ht;simp at ht;first | (subst ht;exact ⟨by kernel_rfl,of_decide_eq_true (by kernel_rfl)⟩) | (rcases ht with rfl | rfl <;> exact ⟨by kernel_rfl,of_decide_eq_true (by kernel_rfl)⟩) | (rcases ht with rfl | rfl | rfl <;> exact ⟨by kernel_rfl,of_decide_eq_true (by kernel_rfl)⟩) | (rcases ht with rfl | rfl | rfl | rfl <;> exact ⟨by kernel_rfl,of_decide_eq_true (by kernel_rfl)⟩) | (rcases ht with rfl | rfl | rfl | rfl | rfl <;> exact ⟨by kernel_rfl,of_decide_eq_true (by kernel_rfl)⟩)) hW' rfl hAA (λ _ _ _=>trodAll_cons_mk (shut_bool Tryz.underlying4 _) trodAll_mk0) rfl (λ _=>rfl) hb⟩
theorem pA:(Rows.replayRootsRow.inPlace == Tryz.prog.inPlace 3)=true:=by kernel_rfl
theorem nP:(Rows.replayRootsRow.named == Tryz.prog.varsNamed 3)=true:=by kernel_rfl
theorem mN:(Rows.replayRootsRow.unfollowed == Tryz.prog.unfollowed 3)=true:=by kernel_rfl
theorem oP:(Rows.replayRootsRow.recurses == Tryz.prog.recurses 3)=true:=by kernel_rfl
theorem pB:laidOutB Tryz.prog=true:=by kernel_rfl
theorem nQ:mapsRowed Tryz.prog=true:=by kernel_rfl
theorem nR:(Rows.replayRootsRow.plainKeys == Tryz.prog.plainKeys)=true:=by kernel_rfl
theorem r8:Tryz.prog.mayEnter=true:=by kernel_rfl
theorem r9:Tryz.prog.stopsHeard=true:=by kernel_rfl
end Go.Proofs.YtgdcbiiopbpgaaaGreatDoor
