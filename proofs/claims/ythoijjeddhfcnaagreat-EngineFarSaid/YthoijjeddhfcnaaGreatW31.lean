import Derived.Test.YthoijjeddhfcnaaGreatW30
import Derived.Deep.AppendSrc
import Derived.Laws.AppendOwn
set_option maxHeartbeats 4000000
set_option maxRecDepth 100000
set_option linter.unusedSimpArgs false
set_option linter.unusedVariables false
namespace Go.Proofs.YthoijjeddhfcnaaGreat
open Go.RowKit
section sl
variable {ν ν':Nu} {P:Program} {G N:Nat} {T T':Tr Value} {a:Act} {H:AH} {F:HL} {w:World}
def bd' (x:Option Value) (n d:Nat):Prop:=(x=none /\ n=d) \/ ∃ k,x=some (.int k (n:Int))
theorem sliceBound_run {k:IntKind} {n y:Nat} {c:BoundsCode} (h:n <= y) (w:World):(Instr.sliceBound (.int k (n:Int)) y c).run P w=.ok n w:=by
  simp [Instr.sliceBound,asIntOf,h,go_sem]
theorem sliceB_run {b:Bool} {len cap l h m:Nat} {lo hi mx:Option Value} (o1:bd' lo l 0) (o2:bd' hi h len) (o3:bd' mx m cap) (hm:mx=none \/ hi ≠ none) (h1:l <= h) (h2:h <= m) (h3:m <= cap) (w:World) :
    (Instr.sliceBounds b len cap lo hi mx).run P w=.ok (l,h,m) w:=by
  unfold Instr.sliceBounds
  rcases o1 with ⟨rfl,rfl⟩ | ⟨k1,rfl⟩ <;> rcases o2 with ⟨rfl,rfl⟩ | ⟨k2,rfl⟩ <;> rcases o3 with ⟨rfl,rfl⟩ | ⟨k3,rfl⟩ <;>
    first
      | (rcases hm with e | e <;> first | (cases e;done) | exact (e rfl).elim)
      | simp [Sem.run_bind,sliceBound_run,h1,h2,h3]
theorem optN_rel {d n:Nat} {x:Option Operand} (hok:∀ y,x=some y -> VRi ν (ael T y) (a.eval y)) (h:optN T d x=some n):bd' (x.map a.eval) n d:=by
  cases x with
  | none=>rw [optN] at h;cases h;exact .inl ⟨rfl,rfl⟩
  | some y =>
    rw [optN] at h
    obtain ⟨k,e⟩:=asN_eq h (hok y rfl)
    exact .inr ⟨k,by simp [e]⟩
theorem cutAt_eq (h o m l k:Nat):cutAt ⟨h,o,none⟩ m l k=⟨h,if m=l then o else o+l * k,none⟩:=by
  unfold cutAt
  split
  · rename_i e;rw [if_pos (Nat.eq_of_beq_eq_true e)]
  · rename_i e
    rw [if_neg (λ e'=>by subst e';simp at e),addA_eq]
theorem cut_real (b o m l k:Nat):(if m=l then (⟨b,o,none⟩:Addr) else (⟨b,o,none⟩:Addr).add (l * k))=⟨b,if m=l then o else o+l * k,none⟩:=by
  split
  · rfl
  · rw [add_eq]
theorem le_of_ble {a b:Nat} (h:Nat.ble a b=true):a <= b:=Nat.le_of_ble_eq_true h
theorem sliceX_rel {k l h m c c':Nat} {base base':Option Addr} {n n':Nat} {v:Value} (hr:VRi ν (.slice base n c) (.slice base' n' c')) (hc:c < unk) (hv:sliceX k base l h m c=some v) :
    l <= h /\ h <= m /\ m <= c /\ VRi ν v (.slice (if m=l then base' else base'.map (·.add (l * k))) (h - l) (m - l)):=by
  unfold sliceX at hv
  split at hv
  case h_2=>cases hv
  rename_i h1 h2 h3
  refine ⟨le_of_ble h1,le_of_ble h2,le_of_ble h3,?_⟩
  have h3':=le_of_ble h3
  split at hv
  · cases hv
    cases hr
    split <;> exact .atom _ rfl
  · split at hv
    · cases hv
      cases hr with
      | atom _ h=>simp [atomV] at h
      | @slice _ b _ _ _ o n hν hcap =>
        rw [cutAt_eq]
        have:(if m=l then (some ⟨b,o,none⟩:Option Addr) else (some ⟨b,o,none⟩:Option Addr).map (·.add (l * k)))=some ⟨b,if m=l then o else o+l * k,none⟩:=by
          rw [<- cut_real];split <;> rfl
        rw [this]
        exact .slice _ _ hν ⟨λ _=>rfl,λ e=>by omega⟩
    · cases hv
theorem sliceA_ok {t:TypeId} {x:Value} {ρx:Value} {lo hi mx:Option Operand} {v:Value} (hH:HR ν H F w) (hx:VRi ν x ρx) (hlo:∀ y,lo=some y -> VRi ν (ael T y) (a.eval y)) (hhi:∀ y,hi=some y -> VRi ν (ael T y) (a.eval y)) (hmx:∀ y,mx=some y -> VRi ν (ael T y) (a.eval y))
    (h:sliceA P t H T x lo hi mx=some v):∃ v',VRi ν v v' /\ (Instr.sliceAt t ρx (lo.map a.eval) (hi.map a.eval) (mx.map a.eval)).run P w=.ok v' w:=by
  unfold sliceA at h
  split at h
  · cases h
  rename_i hmo
  have hmo':(mx.map a.eval=none \/ hi.map a.eval ≠ none):=by
    unfold mxOk at hmo
    split at hmo
    · cases hmo
    · rename_i e
      cases mx with
      | none=>exact .inl rfl
      | some m=>cases hi with
        | none=>exact (e _ rfl rfl).elim
        | some hh=>exact .inr (by simp)
  split at h
  · rename_i el hu
    split at h
    case h_2=>cases h
    rename_i base n c
    split at h
    case h_2=>cases h
    rename_i k l hh hs hl hhn
    have hs':=sizeT_run hs w
    have b1:=optN_rel hlo hl
    have b2:=optN_rel hhi hhn
    split at h
    · rename_i hc
      have hc':=blt_lt hc
      split at h
      case h_2=>cases h
      rename_i m hm
      have b3:=optN_rel hmx hm
      have hreal:∃ base',ρx=.slice base' n c /\ VRi ν (.slice base n c) (.slice base' n c):=by
        cases hx with
        | atom _ h=>exact ⟨_,rfl,.atom _ h⟩
        | slice o n hν hcap=>obtain rfl:=hcap.1 hc';exact ⟨_,rfl,.slice o n hν hcap⟩
      obtain ⟨base',rfl,hr⟩:=hreal
      obtain ⟨g1,g2,g3,g4⟩:=sliceX_rel hr hc' h
      refine ⟨_,g4,?_⟩
      unfold Instr.sliceAt
      rw [Sem.run_bind,und_run hu]
      simp only [Result.andThen_ok]
      unfold Instr.slice
      rw [Sem.run_bind,und_run hu]
      simp only [Result.andThen_ok]
      rw [Sem.run_bind,sliceB_run b1 b2 b3 hmo' g1 g2 g3]
      simp only [Result.andThen_ok]
      rw [Sem.run_bind,hs']
      rfl
    · rename_i hc
      have hc':unk <= c:=by
        rcases Nat.lt_or_ge c unk with e | e
        · have:Nat.blt c unk=true:=Nat.ble_eq_true_of_le e
          rw [this] at hc;cases hc
        · exact e
      split at h
      case h_2=>cases h
      rename_i ad mo hmo2
      cases hx with
      | atom _ h=>simp [atomV] at h
      | @slice hd b K _ c' o n hν hcap =>
      have hcap2:=hcap.2 hc'
      unfold sliceU at h
      split at h
      case h_2=>cases h
      rename_i nn tr ty ww ro hsp hb
      split at h
      case h_2=>cases h
      rename_i e1 e2 e3 e4
      simp only at hb
      obtain ⟨cc,ty',fz,hw,hcr⟩:=hH.cells hb hν
      have e1':ww=k:=Nat.eq_of_beq_eq_true e1
      have e2':=blt_lt e2
      have e3':=le_of_ble e3
      have e4':=le_of_ble e4
      have hsz:=hcr.gr (by omega)
      have hle:=hcr.le
      have hcle:∀ q,(c - unk+q) * ww <= nn -> q <= c':=λ q hq=>by
        have:(c - unk+q) * ww <= K * ww:=by omega
        have:=Nat.le_of_mul_le_mul_right this e2'
        omega
      have hrun:∀ (m:Nat),bd' (mx.map a.eval) m c' -> hh <= m -> m <= c' -> (Instr.sliceAt t (.slice (some ⟨b,o,none⟩) n c') (lo.map a.eval) (hi.map a.eval) (mx.map a.eval)).run P w=.ok (.slice (some ⟨b,if m=l then o else o+l * k,none⟩) (hh - l) (m - l)) w:=λ m b3 g2 g3=>by
        unfold Instr.sliceAt
        rw [Sem.run_bind,und_run hu]
        simp only [Result.andThen_ok]
        unfold Instr.slice
        rw [Sem.run_bind,und_run hu]
        simp only [Result.andThen_ok]
        rw [Sem.run_bind,sliceB_run b1 b2 b3 hmo' e3' g2 g3]
        simp only [Result.andThen_ok]
        rw [Sem.run_bind,hs']
        have:(if m=l then (some ⟨b,o,none⟩:Option Addr) else (some ⟨b,o,none⟩:Option Addr).map (·.add (l * k)))=some ⟨b,if m=l then o else o+l * k,none⟩:=by
          rw [<- cut_real];split <;> rfl
        simp only [Result.andThen_ok,this,run_pu]
      split at h
      · have hmn:mx=none:=by
          unfold optM at hmo2
          split at hmo2
          · rfl
          · split at hmo2 <;> cases hmo2
        subst hmn
        have b3:bd' ((none:Option Operand).map a.eval) c' c':=.inl ⟨rfl,rfl⟩
        split at h
        · rename_i hlt
          have hlt':=blt_lt hlt
          cases h
          have g:=hcle _ e4'
          refine ⟨_,?_,hrun c' b3 g (Nat.le_refl _)⟩
          rw [addA_eq,if_neg (by omega)]
          exact .slice _ _ hν ⟨λ e=>by omega,λ e=>by omega⟩
        · rename_i hnl
          split at h
          · cases h
            have g:=hcle _ e4'
            have hh0:hh=0:=by
              rcases Nat.eq_zero_or_pos hh with e | e
              · exact e
              · have:Nat.blt 0 hh=true:=Nat.ble_eq_true_of_le e
                rw [this] at hnl;cases hnl
            subst hh0
            refine ⟨_,?_,hrun c' b3 g (Nat.le_refl _)⟩
            simp only [Nat.zero_mul,Nat.add_zero,ite_self,Nat.sub_zero]
            exact .slice _ _ hν hcap
          · cases h
      · rename_i m
        split at h
        case h_2=>cases h
        rename_i q1 q2 q3
        cases h
        have hmn:∃ y,mx=some y /\ asN (ael T y)=some m:=by
          unfold optM at hmo2
          split at hmo2
          · cases hmo2
          · rename_i y
            split at hmo2
            · rename_i n' e';cases hmo2;exact ⟨y,rfl,e'⟩
            · cases hmo2
        obtain ⟨y,rfl,ey⟩:=hmn
        obtain ⟨kk,ey'⟩:=asN_eq ey (hmx y rfl)
        have b3:bd' ((some y:Option Operand).map a.eval) m c':=.inr ⟨kk,by simp [ey']⟩
        refine ⟨_,?_,hrun m b3 (le_of_ble q1) (hcle _ (le_of_ble q2))⟩
        rw [cutAt_eq]
        have:=blt_lt q3
        exact .slice _ _ hν ⟨λ _=>rfl,λ e=>by omega⟩
  · rename_i n el hu
    split at h
    case h_2=>cases h
    rename_i ad
    split at h
    case h_2=>cases h
    rename_i k l hh m hs hl hhn hm
    have hs':=sizeT_run hs w
    have b1:=optN_rel hlo hl
    have b2:=optN_rel hhi hhn
    have b3:=optN_rel hmx hm
    split at h
    case h_2=>cases h
    rename_i hn
    cases hx with
    | atom _ h=>simp [atomV] at h
    | @ptr hd b K o hν =>
    obtain ⟨g1,g2,g3,g4⟩:=sliceX_rel (n:=0) (n':=0) (c':=n) (.slice o 0 hν ⟨λ _=>rfl,λ e=>by have:=blt_lt hn;omega⟩:VRi ν (.slice (some ⟨hd,o,none⟩) 0 n) (.slice (some ⟨b,o,none⟩) 0 n)) (blt_lt hn) h
    refine ⟨_,g4,?_⟩
    unfold Instr.sliceAt
    rw [Sem.run_bind,und_run hu]
    simp only [Result.andThen_ok]
    rw [Sem.run_bind]
    simp only [Instr.sureAddr,run_pu,Result.andThen_ok]
    rw [Sem.run_bind,sliceB_run b1 b2 b3 hmo' g1 g2 g3]
    simp only [Result.andThen_ok]
    rw [Sem.run_bind,hs']
    have:(if m=l then (some ⟨b,o,none⟩:Option Addr) else (some ⟨b,o,none⟩:Option Addr).map (·.add (l * k)))=some (if m=l then ⟨b,o,none⟩ else (⟨b,o,none⟩:Addr).add (l * k)):=by split <;> rfl
    rw [this]
    rfl
  · cases h
theorem loadV_ok {o:Oper} {v:Value} (hH:HR ν H F w) (h:loadV P o T H=some v) {l:List Operand} (hl:opsOf o.op=some l) (hok:OK ν T a l):∃ v',VRi ν v v' /\ (execOp a.eval o).run P w=.ok (.value v') w:=by
  have hl0:=hl
  unfold loadV at h
  split at h
  · rename_i t x ho
    rw [ho] at hl;simp only [opsOf,Option.some.injEq] at hl;subst hl
    have hx:=hok x (by simp)
    split at h
    · rename_i ad e
      rw [e] at hx
      generalize hu:a.eval x=u at hx
      have hx2:=hx
      cases hx with
      | atom _ h=>simp [atomV] at h
      | ptr o hν =>
        obtain ⟨v',r,e2⟩:=loadA_ok hH hx2 h
        refine ⟨v',r,?_⟩
        simp [execOp,ho,Instr.loadAt,Instr.sureAddr,hu,Sem.run_bind,e2]
    · cases h
  · rename_i t m k ok ho
    rw [ho] at hl;simp only [opsOf,Option.some.injEq] at hl;subst hl
    obtain ⟨hp,v',r,e⟩:=lookA_ok hH (hok m (by simp)) h
    have hk:=(hok k (by simp)).plain_eq hp
    refine ⟨v',r,?_⟩
    simp [execOp,ho,hk,Sem.run_bind,e]
  · rename_i t x lo hi mx ho
    split at h
    · obtain ⟨v',r,e⟩:=plainV_ok h hl0 hok
      exact ⟨v',r,e w⟩
    · rw [ho] at hl;simp only [opsOf,Option.some.injEq] at hl;subst hl
      obtain ⟨v',r,e⟩:=sliceA_ok (a:=a) hH (hok x (by simp)) (λ y hy=>hok y (by subst hy;simp)) (λ y hy=>hok y (by subst hy;simp)) (λ y hy=>hok y (by subst hy;simp)) h
      refine ⟨v',r,?_⟩
      simp [execOp,ho,Sem.run_bind,e]
  · cases h
end sl
section wr
variable {ν ν':Nu} {P:Program} {G N:Nat} {T T':Tr Value} {a:Act} {H H':AH} {F:HL} {w w':World}
theorem hget_set (H:AH) (h k:Nat) (b:Option AB):hget (hset H h b) k=if h=k then b else hget H k:=get_set_eq _ _ _
theorem HR.upd (hH:HR ν H F w) {h r K:Nat} {b0 b1:AB} {o':Obj} (hb:hget H h=some b0) (hw0:wrb b0=true) (hw1:wrb b1=true) (hν:ν h=some (r,K)) (hr:w'.heap[r]?=some o') (ho:OR ν K b1 o') (hs:∀ k,k ≠ r -> w'.heap[k]?=w.heap[k]?):HR ν (hset H h (some b1)) F w':=by
  have old:∀ k b,hget (hset H h (some b1)) k=some b -> k ≠ h -> hget H k=some b:=λ k b hk hne=>by
    rw [hget_set,if_neg (Ne.symm hne)] at hk;exact hk
  have ex:∀ k b,hget (hset H h (some b1)) k=some b -> ∃ b',hget H k=some b' /\ (wrb b=true -> wrb b'=true):=λ k b hk=>by
    by_cases e:k=h
    · subst e;exact ⟨b0,hb,λ _=>hw0⟩
    · exact ⟨b,old k b hk e,λ e=>e⟩
  refine ⟨λ k b hk=>?_,λ k1 k2 b1' b2' q K1 K2 h1 h2 h3 h4=>?_,λ x hx=>?_,λ k b q K' hk hq x hx=>?_⟩
  · by_cases e:k=h
    · subst e
      rw [hget_set,if_pos rfl] at hk
      cases hk
      exact ⟨r,K,o',hν,hr,ho⟩
    · have hk':=old k b hk e
      obtain ⟨q,K',o,h1,h2,h3⟩:=hH.blk k b hk'
      refine ⟨q,K',o,h1,?_,h3⟩
      rw [hs q,h2]
      intro e'
      subst e'
      exact e (hH.inj _ _ _ _ _ _ _ hk' hb h1 hν)
  · obtain ⟨c1,d1,-⟩:=ex _ _ h1
    obtain ⟨c2,d2,-⟩:=ex _ _ h2
    exact hH.inj _ _ _ _ _ _ _ d1 d2 h3 h4
  · rw [hs _ (hH.apt _ _ _ _ hb hν x hx)]
    exact hH.frm x hx
  · obtain ⟨c1,d1,d2⟩:=ex _ _ hk
    exact hH.apt _ _ _ _ d1 hq x hx
theorem HR.del (hH:HR ν H F w) (h:Nat):HR ν (hset H h none) F w:=by
  have old:∀ k b,hget (hset H h none) k=some b -> hget H k=some b:=λ k b hk=>by
    rw [hget_set] at hk
    split at hk
    · cases hk
    · exact hk
  exact ⟨λ k b hk=>hH.blk k b (old k b hk),λ k1 k2 b1 b2 q K1 K2 h1 h2 h3 h4=>hH.inj _ _ _ _ _ _ _ (old _ _ h1) (old _ _ h2) h3 h4,hH.frm,λ k b q K hk=>hH.apt k b q K (old k b hk)⟩
theorem HR.add (hH:HR ν H F w) {n r K:Nat} {b:AB} {o:Obj} (hn:ν n=none) (hr:w.heap[r]?=some o) (ho:OR ν K b o) (hwb:wrb b=true) (hF:∀ x ∈ F,x.1 ≠ r) (hfr:∀ k b' K',hget H k=some b' -> ν k ≠ some (r,K')):HR (ν.upd n r K) (hset H n (some b)) F w:=by
  have hle:ν.Le (ν.upd n r K):=Nu.le_upd hn
  have hno:hget H n=none:=by
    cases e:hget H n with
    | none=>rfl
    | some b'=>obtain ⟨q,K',o',h1,-⟩:=hH.blk n b' e;rw [hn] at h1;cases h1
  have old:∀ k b',hget (hset H n (some b)) k=some b' -> k ≠ n -> hget H k=some b':=λ k b' hk hne=>by
    rw [hget_set,if_neg (Ne.symm hne)] at hk;exact hk
  refine ⟨λ k b' hk=>?_,λ k1 k2 b1 b2 q K1 K2 h1 h2 h3 h4=>?_,hH.frm,λ k b' q K' hk hq x hx=>?_⟩
  · by_cases e:k=n
    · subst e
      rw [hget_set,if_pos rfl] at hk
      cases hk
      exact ⟨r,K,o,Nu.upd_self,hr,ho.mono hle⟩
    · obtain ⟨q,K',o',h1,h2,h3⟩:=hH.blk k b' (old k b' hk e)
      exact ⟨q,K',o',hle _ _ h1,h2,h3.mono hle⟩
  · by_cases e1:k1=n
    · by_cases e2:k2=n
      · rw [e1,e2]
      · subst e1
        rw [Nu.upd_self] at h3
        rw [Nu.upd_ne e2] at h4
        cases h3
        exact (hfr _ _ _ (old _ _ h2 e2) h4).elim
    · by_cases e2:k2=n
      · subst e2
        rw [Nu.upd_self] at h4
        rw [Nu.upd_ne e1] at h3
        cases h4
        exact (hfr _ _ _ (old _ _ h1 e1) h3).elim
      · rw [Nu.upd_ne e1] at h3
        rw [Nu.upd_ne e2] at h4
        exact hH.inj _ _ _ _ _ _ _ (old _ _ h1 e1) (old _ _ h2 e2) h3 h4
  · by_cases e:k=n
    · subst e
      rw [Nu.upd_self] at hq
      cases hq
      exact hF x hx
    · rw [Nu.upd_ne e] at hq
      exact hH.apt _ _ _ _ (old _ _ hk e) hq x hx
theorem HR.world (hH:HR ν H F w) (hs:∀ k,k < w.heap.size -> w'.heap[k]?=w.heap[k]?):HR ν H F w':=by
  refine ⟨λ k b hk=>?_,hH.inj,λ x hx=>?_,hH.apt⟩
  · obtain ⟨q,K',o',h1,h2,h3⟩:=hH.blk k b hk
    exact ⟨q,K',o',h1,by rw [hs _ (lt_of_heap' h2)];exact h2,h3⟩
  · have:=hH.frm x hx
    rw [hs _ (lt_of_heap' this)]
    exact this
theorem HR.new (hH:HR ν H F w) {n K:Nat} {b:AB} {o:Obj} (hn:ν n=none) (ho:OR ν K b o) (hwb:wrb b=true) (hw:w'.heap=w.heap.push o):HR (ν.upd n w.heap.size K) (hset H n (some b)) F w':=by
  have h1:HR ν H F w':=hH.world (λ k hk=>by rw [hw,Array.getElem?_push,if_neg (by omega)])
  refine h1.add hn (by rw [hw];simp) ho hwb (λ x hx e=>?_) (λ k b' K' hk e=>?_)
  · have:=lt_of_heap' (hH.frm x hx)
    omega
  · have:=hH.lt hk e
    omega
theorem ofL_get0 {l:List Value} {i:Nat} (h:i < l.length):tget (Tr.ofL undef l 0 .lf) i=l[i]:=by
  unfold tget
  rw [ofL_get]
  simp [h]
theorem cellsB_eq (l:List Value) (ty:TypeId):cellsB l ty=.cells l.length (Tr.ofL undef l 0 .lf) ty 0 false:=by
  unfold cellsB
  split <;> rename_i h <;> rw [h,lenL_eq]
theorem grownB_eq (l:List Value) (ty:TypeId) (k:Nat):grownB l ty k=.cells l.length (Tr.ofL undef l 0 .lf) ty k false:=by
  unfold grownB
  split <;> rename_i h <;> rw [h,lenL_eq]
theorem CR.of {l l' rest:List Value} {ty:TypeId} {ww K:Nat} (h:LR ν l l') (hk:ww ≠ 0 -> (l'++rest).length=K * ww):CR ν K l.length (Tr.ofL undef l 0 .lf) ty ww ⟨l'++rest⟩ ty (0,0):=by
  refine ⟨rfl,by simp [h.length],rfl,λ i hi=>?_,λ e=>by simpa using hk e⟩
  obtain ⟨v',e,r⟩:=h.get (List.getElem?_eq_getElem hi)
  refine ⟨v',?_,by rw [ofL_get0 hi];exact r⟩
  have:(l'++rest)[i]?=some v':=by rw [List.getElem?_append_left (by rw [h.length];exact hi)];exact e
  simpa using this
theorem OR.cellsB {l l':List Value} {ty:TypeId} {K:Nat} (h:LR ν l l'):OR ν K (cellsB l ty) (.cells ⟨l'⟩ ty (0,0)):=by
  rw [cellsB_eq]
  have:=CR.of (ty:=ty) (ww:=0) (K:=K) (rest:=[]) h (λ e=>(e rfl).elim)
  have h2:CR ν K l.length (Tr.ofL undef l 0 .lf) ty 0 ⟨l'⟩ ty (0,0):=by simpa using this
  exact h2
theorem wrb_cellsB (l:List Value) (ty:TypeId):wrb (cellsB l ty)=true:=by rw [cellsB_eq];rfl
theorem writeN_get (t:Tr Value):∀ (vs:List Value) (i j:Nat),tget (writeN t i vs) j=if h:i <= j /\ j - i < vs.length then vs[j - i] else tget t j:=by
  intro vs
  induction vs generalizing t with
  | nil=>intro i j;simp [writeN]
  | cons v vs ih =>
    intro i j
    rw [writeN,ih]
    have hset:tget (tset t i v) j=if i=j then v else tget t j:=get_set_eq _ _ _
    by_cases h1:i=j
    · subst h1
      have:¬ (i+1 <= i /\ i - (i+1) < vs.length):=by omega
      rw [dif_neg this,hset,if_pos rfl]
      simp
    · by_cases h2:i <= j
      · have h4:j - i=(j - (i+1))+1:=by omega
        by_cases h3:j - (i+1) < vs.length
        · rw [dif_pos ⟨by omega,h3⟩,dif_pos ⟨h2,by rw [List.length_cons];omega⟩]
          simp only [h4,List.getElem_cons_succ]
        · rw [dif_neg (by omega),dif_neg (by rw [List.length_cons];omega),hset,if_neg h1]
      · rw [dif_neg (by omega),dif_neg (by omega),hset,if_neg h1]
theorem setCells_otheri (b:Nat):∀ (vs:List Value) (o:Nat) (w:World) (k:Nat),k ≠ b -> (w.setCells b o vs).heap[k]?=w.heap[k]?
  | [],_,_,_,_=>rfl
  | v :: vs,o,w,k,h=>by rw [World.setCells,setCells_otheri b vs _ _ _ h,Below.heap_setCell _ _ _ _ h]
theorem setCells_belowi (b:Nat):∀ (vs:List Value) (o:Nat) (w:World),Below 0 w (w.setCells b o vs)
  | [],_,w=>Below.refl 0 w
  | v :: vs,o,w=>by
    rw [World.setCells]
    exact ((Below.refl 0 w).setCell (Nat.zero_le _) v).trans (setCells_belowi b vs (o+1) _)
theorem setCells_at (b:Nat):∀ (vs:List Value) (o:Nat) (w:World) {c:Array Value} {ty:TypeId} {fz:Nat × Nat},w.heap[b]?=some (.cells c ty fz) -> ∃ c',(w.setCells b o vs).heap[b]?=some (.cells c' ty fz) /\ c'.size=c.size /\ ∀ j,j < c.size -> c'[j]?=if h:o <= j /\ j - o < vs.length then some vs[j - o] else c[j]?
  | [],o,w,c,ty,fz,h=>⟨c,h,rfl,λ j _=>by simp⟩
  | v :: vs,o,w,c,ty,fz,h=>by
    have h1:(w.setCell ⟨b,o,none⟩ v).heap[b]?=some (.cells (c.setIfInBounds o v) ty fz):=by
      simp [World.setCell,Array.getElem?_modify,h]
    obtain ⟨c',e1,e2,e3⟩:=setCells_at b vs (o+1) _ h1
    refine ⟨c',e1,by simpa using e2,λ j hj=>?_⟩
    rw [e3 j (by simpa using hj)]
    by_cases h2:o=j
    · subst h2
      rw [dif_neg (by omega),dif_pos ⟨Nat.le_refl _,by simp⟩,Array.getElem?_setIfInBounds_self_of_lt hj]
      simp
    · rw [Array.getElem?_setIfInBounds_ne h2]
      by_cases h3:o <= j
      · have h4:j - o=(j - (o+1))+1:=by omega
        by_cases h5:j - (o+1) < vs.length
        · rw [dif_pos ⟨by omega,h5⟩,dif_pos ⟨h3,by rw [List.length_cons];omega⟩]
          simp only [h4,List.getElem_cons_succ]
        · rw [dif_neg (by omega),dif_neg (by rw [List.length_cons];omega)]
      · rw [dif_neg (by omega),dif_neg (by omega)]
theorem flatL_cons {v:Value} {l:List Value} (hf:flatL (v :: l)=true):(∀ cs,v ≠ Value.agg cs) /\ (∀ cs,v ≠ Value.tuple cs) /\ flatL l=true:=by
  cases v <;> simp [flatL] at hf <;> simp [hf]
theorem flatL_one {vs vs':List Value} (h:LR ν vs vs') (hf:flatL vs=true):∀ u ∈ vs',u.oneCell'=true:=by
  induction h with
  | nil=>intro u hu;cases hu
  | cons hv _ ih =>
    intro u hu
    obtain ⟨h1,h2,h3⟩:=flatL_cons hf
    rcases List.mem_cons.1 hu with rfl | hu
    · cases hv <;> first | rfl | exact (h1 _ rfl).elim | exact (h2 _ rfl).elim | skip
      rename_i v0 _ _ _ e
      cases v0 <;> first | rfl | simp [atomV] at e
    · exact ih h3 u hu
theorem putSeg_ok {h o b K:Nat} {vs vs':List Value} (hH:HR ν H F w) (hν:ν h=some (b,K)) (hl:LR ν vs vs') (hp:putSeg H ⟨h,o,none⟩ vs=some H') :
    (∀ j,j < vs'.length -> (w.cell? ⟨b,o+j,none⟩).isSome=true) /\ (∀ j,j < vs'.length -> w.frozen? ⟨b,o+j,none⟩=false) /\ (∀ u ∈ vs',u.oneCell'=true) /\ HR ν H' F (w.setCells b o vs') /\ Below 0 w (w.setCells b o vs'):=by
  unfold putSeg at hp
  split at hp
  case h_2=>cases hp
  rename_i n tr ty ww hs hb
  split at hp
  case h_2=>cases hp
  rename_i hle hf
  cases hp
  simp only at hb
  obtain ⟨c,ty',fz,hw,hc⟩:=hH.cells hb hν
  have hle':=le_of_ble hle
  rw [lenL_eq] at hle'
  simp only at hle'
  have hlen:=hl.length
  have hcs:=hc.le
  refine ⟨λ j hj=>?_,λ j hj=>?_,flatL_one hl hf,?_,setCells_belowi _ _ _ _⟩
  · rw [cell_of hw,Array.getElem?_eq_getElem (by omega)];rfl
  · obtain ⟨lo,hi⟩:=fz
    have:=hc.fz
    cases this
    simp [World.frozen?,hw]
  · obtain ⟨c',e1,e2,e3⟩:=setCells_at b vs' o w hw
    refine hH.upd (b1:=.cells n (writeN tr o vs) ty ww false) hb rfl rfl hν e1 ?_ (λ k hk=>setCells_otheri b vs' o w k hk)
    refine ⟨hc.ty,by rw [e2];exact hcs,hc.fz,λ i hi=>?_,λ e=>by rw [e2];exact hc.gr e⟩
    rw [e3 i (by omega),writeN_get]
    by_cases h1:o <= i /\ i - o < vs.length
    · obtain ⟨v',g1,g2⟩:=hl.get (List.getElem?_eq_getElem h1.2)
      rw [dif_pos h1,dif_pos ⟨h1.1,by rw [hlen];exact h1.2⟩]
      refine ⟨v',?_,g2⟩
      rw [<- g1,List.getElem?_eq_getElem]
    · rw [dif_neg h1,dif_neg (by rw [hlen];exact h1)]
      exact hc.get i hi
theorem storeA_ok {t:TypeId} {ad ad':Addr} {v v':Value} (hH:HR ν H F w) (hp:VRi ν (.pointer (some ad)) (.pointer (some ad'))) (hv:VRi ν v v') (h:storeA P t H ad v=some H'):∃ w',(storeVar t ad' v').run P w=.ok () w' /\ HR ν H' F w' /\ Below 0 w w':=by
  cases hp with
  | atom _ h=>simp [atomV] at h
  | @ptr hd b K o hν =>
    unfold storeA at h
    split at h
    case h_2=>cases h
    rename_i k hk
    split at h
    case h_2=>cases h
    rename_i hl
    have hcr:=cellsL_rel hv
    obtain ⟨h1,h2,h3,h4,h5⟩:=putSeg_ok hH hν hcr h
    refine ⟨_,?_,h4,h5⟩
    have hsz:v'.cells.size=k:=by
      have e1:=Nat.eq_of_beq_eq_true hl
      rw [lenL_eq,<- hcr.length,cellsL_eq] at e1
      simpa using e1
    unfold storeVar
    rw [Sem.run_bind,sizeT_run hk]
    simp only [Result.andThen_ok,hsz,ne_eq,not_true_eq_false,if_false]
    have:=run_storeCells_cells (P:=P) b o (cellsL v') 0 w (by simpa using h1) (by simpa using h2) h3
    rw [cellsL_eq] at this
    rw [<- cellsL_eq] at *
    simpa [Sem.run_bind,run_pu] using this
end wr
end Go.Proofs.YthoijjeddhfcnaaGreat
