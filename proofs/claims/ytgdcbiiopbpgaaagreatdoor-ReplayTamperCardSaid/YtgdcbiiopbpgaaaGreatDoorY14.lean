import Derived.Test.YtgdcbiiopbpgaaaGreatDoorY13
import Derived.Test.YtgdcbiiopbpgaaaGreatDoorProg
import Derived.Test.YtgdcbiiopbpgaaaGreatDoorY08
import Derived.Test.YtgdcbiiopbpgaaaGreatDoorY03
import Derived.RecoverIn
import Derived.Test.YtgdcbiiopbpgaaaGreatDoorY06
set_option maxHeartbeats 4000000
set_option maxRecDepth 100000
set_option linter.unusedSimpArgs false
set_option linter.unusedVariables false
namespace Go.Proofs.YtgdcbiiopbpgaaaGreatDoor
open Go.RowKit
noncomputable section
def vF(ν:Nu)(h:Nat):Nat:=match ν h with
 | some (b,_)=>b
 | none=>0
def QO(ν:Nu)(h c:Nat):Nat:=match Nat.blt c l9 with
 | true=>c
 | false=>match ν h with
  | some (_,K)=>K-(c-l9)
  | none=>0
mutual
def mC(ν:Nu):Value -> Value
 | .pointer (some a)=>.pointer (some ⟨vF ν a.block,a.off,none⟩)
 | .slice (some a) n c=>.slice (some ⟨vF ν a.block,a.off,none⟩) n (QO ν a.block c)
 | .map (some h)=>.map (some (vF ν h))
 | .iface t v=>.iface t (mC ν v)
 | .agg c=>.agg (HC ν c)
 | .tuple c=>.tuple (HC ν c)
 | v=>v
def HC(ν:Nu):Array Value -> Array Value
 | ⟨l⟩=>⟨HD ν l⟩
def HD(ν:Nu):List Value -> List Value
 | []=>[]
 | v::l=>mC ν v::HD ν l
end
mutual
def rZ:Value -> Bool
 | .iface _ v=>rZ v
 | .func f a c=>pl (.func f a c)
 | .agg c=>P8 c
 | .tuple c=>P8 c
 | .chan _=>false
 | _=>true
def P8:Array Value -> Bool
 | ⟨l⟩=>Nn l
def Nn:List Value -> Bool
 | []=>true
 | v::l=>match rZ v with
  | true=>Nn l
  | false=>false
end
theorem vG{ν:Nu}:∀ {l l':List Value},l.length=l'.length -> (∀ (i:Nat) (v v':Value),l[i]?=some v -> l'[i]?=some v' -> rZ v=true -> v'=mC ν v) -> Nn l=true -> l'=HD ν l
 | [],[],_,_,_=>rfl
 | [],_::_,e,_,_=>by simp at e
 | _::_,[],e,_,_=>by simp at e
 | v::l,v'::l',e,h,ho=>by
  rw[Nn] at ho
  cases hv:rZ v with
  | false=>rw[hv] at ho;cases ho
  | true =>
   rw[hv] at ho
   have a1:=h 0 v v' rfl rfl hv
   have a2:=vG (l:=l) (l':=l') (by simpa using e) (λ i a b h1 h2=>h (i+1) a b (by simpa using h1) (by simpa using h2)) ho
   rw[HD,<- a1,<- a2]
theorem B6{ν:Nu}{v v':Value}(h:VRi ν v v'):rZ v=true -> v'=mC ν v:=by
 induction h with
 | atom v h =>
  intro _
  cases v with
  | pointer a=>cases a with
   | none=>rfl
   | some a=>simp[cD] at h
  | slice a n c=>cases a with
   | none=>rfl
   | some a=>simp[cD] at h
  | map r=>cases r with
   | none=>rfl
   | some r=>simp[cD] at h
  | iface t v=>simp[cD] at h
  | agg c=>simp[cD] at h
  | tuple c=>simp[cD] at h
  | _=>rfl
 | ptr o h=>intro _;simp[mC,vF,h]
 | @slice hd b K c c' o n h hc =>
  intro _
  simp only[mC,vF,QO,h]
  congr 1
  cases hb:Nat.blt c l9 with
  | true=>exact hc.1 (Eq.mp Nat.blt_eq hb)
  | false =>
   have h2:=hc.2 (k9 hb)
   simp only
   omega
 | map h=>intro _;simp[mC,vF,h]
 | func hf e1 h1 e2 h2 _ _ =>
  intro ho
  have:=VRi.plain_eq (VRi.func hf e1 h1 e2 h2) (by simpa only[rZ] using ho)
  rw[this];rfl
 | iface t _ ih=>intro ho;rw[mC,<- ih (by simpa only[rZ] using ho)]
 | @agg c c' e _ ih =>
  intro ho
  obtain⟨l⟩:=c
  obtain⟨l'⟩:=c'
  simp only[List.getElem?_toArray] at ih
  rw[mC,HC,vG (l:=l) (l':=l') e ih (by simpa only[rZ,P8] using ho)]
 | @tuple c c' e _ ih =>
  intro ho
  obtain⟨l⟩:=c
  obtain⟨l'⟩:=c'
  simp only[List.getElem?_toArray] at ih
  rw[mC,HC,vG (l:=l) (l':=l') e ih (by simpa only[rZ,P8] using ho)]
theorem KC{ν:Nu}{l l':List Value}(h:LR ν l l'):Nn l=true -> l'=l.map (mC ν):=by
 induction h with
 | nil=>intro _;rfl
 | @cons v v' l l' h _ ih =>
  intro ho
  rw[Nn] at ho
  cases hv:rZ v with
  | false=>rw[hv] at ho;cases ho
  | true =>
   rw[hv] at ho
   rw[List.map_cons,B6 h hv,ih ho]
abbrev PB:=Nat × List Value × TypeId
def KD(H:AH)(p:PB):Bool:=match bP H p.1 with
 | some (.cells n t ty _ _)=>match Nat.beq n (gu p.2.1),Nat.beq ty p.2.2 with
  | true,true=>match qg (gN t 0 n) p.2.1 with
   | true=>Nn p.2.1
   | false=>false
  | _,_=>false
 | _=>false
def B7(H:AH):List PB -> Bool
 | []=>true
 | p::l=>match KD H p with
  | true=>B7 H l
  | false=>false
def pq(ν:Nu)(w:World)(p:PB):List Value:=match w.heap[vF ν p.1]? with
 | some (.cells c _ _)=>c.toList.drop p.2.1.length
 | _=>[]
def r7(ν:Nu)(rest:PB -> List Value)(p:PB):Nat × Blk:=(vF ν p.1,.lit (p.2.1.map (mC ν)++rest p) p.2.2 (0,0))
theorem B8(l l':List Value)(h:qg l l'=true):l=l':=by
 induction l generalizing l' with
 | nil=>cases l' with
  | nil=>rfl
  | cons v l'=>simp[qg] at h
 | cons v l ih=>cases l' with
  | nil=>simp[qg] at h
  | cons v' l' =>
   rw[qg] at h
   cases hv:sO v v' with
   | false=>rw[hv] at h;cases h
   | true=>rw[hv] at h;rw[z8 _ _ hv,ih _ h]
theorem HE{ν:Nu}{H:AH}{F:HL}{w:World}(hH:HR ν H F w){p:PB}(hc:KD H p=true) :
  (∃K,ν p.1=some (vF ν p.1,K)) /\ (∃b,bP H p.1=some b) /\ w.heap[vF ν p.1]?=some (r7 ν (pq ν w) p).2.den:=by
 unfold KD at hc
 split at hc
 case h_2=>cases hc
 rename_i n t ty ww ro hb
 split at hc
 case h_2=>cases hc
 rename_i e1 e2
 have e1:=Nat.eq_of_beq_eq_true e1
 have e2:=Nat.eq_of_beq_eq_true e2
 split at hc
 case h_2=>cases hc
 rename_i e3
 have e3:=B8 _ _ e3
 obtain⟨r,K,o,h1,h2,h3⟩:=hH.blk _ _ hb
 have hn:vF ν p.1=r:=by simp[vF,h1]
 have hcc:=hH.cells hb h1
 obtain⟨c,ty',fz,g1,g2⟩:=hcc
 refine⟨⟨K,by rw[hn];exact h1⟩,⟨_,hb⟩,?_⟩
 rw[hn,g1]
 have hr:=ke g2.le g2.get n 0 (by omega)
 rw[e3] at hr
 have hl:=KC hr hc
 rw[eh] at e1
 simp only[r7,Blk.den,pq,hn,g1,g2.ty,g2.fz,<- e2]
 congr 2
 apply Array.ext'
 simp only
 rw[<- hl,List.drop_zero,<- e1,List.take_append_drop]
def ye:List PB -> AH
 | []=>.lf
 | p::l=>cV (ye l) p.1 (some (.cells (gu p.2.1) (dK undef p.2.1 0 .lf) p.2.2 1 true))
def yf(tabs:List PB)(G:Nat):Nu:=λ h=>if h<G then some (h,match tabs.find? (λ p=>p.1 == h) with|some p=>p.2.1.length|none=>0) else none
def oB(p:PB):Nat × Blk:=(p.1,.lit p.2.1 p.2.2 (0,0))
def yg(G:Nat):List PB -> Bool
 | []=>true
 | p::l=>match Nat.blt p.1 G,xq p.2.1,l.any (λ q=>q.1 == p.1) with
  | true,true,false=>yg G l
  | _,_,_=>false
end
noncomputable section
theorem B9:∀ (tabs:List PB) (h:Nat),bP (ye tabs) h=match tabs.find? (λ p=>p.1 == h) with
  | some p=>some (.cells (gu p.2.1) (dK undef p.2.1 0 .lf) p.2.2 1 true)
  | none=>none
 | [],h=>zS _
 | p::l,h=>by
  rw[ye,dD,B9 l h]
  by_cases e:p.1=h
  ·rw[if_pos e,List.find?_cons_of_pos (by simpa using e)]
  ·rw[if_neg e,List.find?_cons_of_neg (by simpa using e)]
theorem mm{G:Nat}:∀ {tabs:List PB},yg G tabs=true -> ∀p∈tabs,p.1<G /\ xq p.2.1=true
 | [],_,p,hp=>by simp at hp
 | q::l,h,p,hp=>by
  rw[yg] at h
  split at h
  ·rename_i h1 h2 h3
   rcases List.mem_cons.1 hp with rfl|hp
   ·exact⟨Eq.mp Nat.blt_eq h1,h2⟩
   ·exact mm h p hp
  ·cases h
theorem Ca:∀ {l:List Value},xq l=true -> ∀ {i:Nat} {v:Value},l[i]?=some v -> pl v=true
 | [],_,i,v,h=>by simp at h
 | x::l,hp,i,v,h=>by
  rw[xq] at hp
  split at hp
  ·rename_i hx
   cases i with
   | zero=>simp at h;rw[<- h];exact hx
   | succ i=>exact Ca hp (by simpa using h)
  ·cases hp
theorem pr{tabs:List PB}{h:Nat}{p:PB}(e:tabs.find? (λ p=>p.1 == h)=some p):p∈tabs /\ p.1=h :=
 ⟨List.mem_of_find?_eq_some e,by simpa using List.find?_some e⟩
section
variable {tabs picks:List PB} {G:Nat} {F:HL} {w:World}
theorem Np(ht:yg G tabs=true)(hR:Rel (tabs.map oB++F) w):HR (yf tabs G) (ye tabs) F w:=by
 have key:∀h b,bP (ye tabs) h=some b -> ∃p,tabs.find? (λ p=>p.1 == h)=some p /\ b=.cells (gu p.2.1) (dK undef p.2.1 0 .lf) p.2.2 1 true:=λ h b hb=>by
  rw[B9] at hb
  split at hb
  ·rename_i p hp;cases hb;exact⟨p,hp,rfl⟩
  ·cases hb
 refine⟨λ h b hb=>?_,λ h₁ h₂ b₁ b₂ r K₁ K₂ _ _ e1 e2=>?_,λ x hx=>hR.holds x (List.mem_append_right _ hx),λ h b r K hb e1 x hx=>?_⟩
 ·obtain⟨p,hp,rfl⟩:=key h b hb
  obtain⟨hm,rfl⟩:=pr hp
  obtain⟨iF,IF⟩:=mm ht p hm
  refine⟨p.1,p.2.1.length,.cells ⟨p.2.1⟩ p.2.2 (0,0),by simp only[yf,if_pos iF,hp],?_,?_⟩
  ·exact hR.holds (oB p) (List.mem_append_left _ (List.mem_map.2 ⟨p,hm,rfl⟩))
  ·refine⟨rfl,by rw[eh];exact Nat.le_refl _,rfl,λ i hi=>?_,λ _=>by simp⟩
   rw[eh] at hi
   refine⟨p.2.1[i],by simp[hi],?_⟩
   rw[lH hi]
   exact VRi.plain_refl _ (Ca IF (List.getElem?_eq_getElem hi))
 ·unfold yf at e1 e2
  split at e1
  ·split at e2
   ·simp only[Option.some.injEq,Prod.mk.injEq] at e1 e2
    rw[e1.1,e2.1]
   ·cases e2
  ·cases e1
 ·obtain⟨p,hp,rfl⟩:=key h b hb
  obtain⟨hm,rfl⟩:=pr hp
  have hr:r=p.1:=by
   unfold yf at e1
   split at e1
   ·simp only[Option.some.injEq,Prod.mk.injEq] at e1;exact e1.1.symm
   ·cases e1
  intro e
  have hn:=hR.nodup
  rw[List.map_append,List.nodup_append] at hn
  exact hn.2.2 p.1 (by rw[List.map_map];exact List.mem_map.2 ⟨p,hm,rfl⟩) x.1 (List.mem_map.2 ⟨x,hx,rfl⟩) (by rw[e,hr])
def KE(H:AH)(p:PB):Bool:=match bP H p.1 with
 | some (.cells n t ty ww _)=>match Nat.beq n (gu p.2.1),Nat.beq ty p.2.2,Nat.beq ww 1 with
  | true,true,true=>qg (gN t 0 n) p.2.1
  | _,_,_=>false
 | _=>false
def Cb(H:AH):List PB -> Bool
 | []=>true
 | p::l=>match KE H p with
  | true=>Cb H l
  | false=>false
theorem uq{H:AH}:∀ {l:List PB},Cb H l=true -> ∀p∈l,KE H p=true
 | [],_,p,hp=>by simp at hp
 | q::l,h,p,hp=>by
  rw[Cb] at h
  split at h
  ·rename_i h1
   rcases List.mem_cons.1 hp with rfl|hp
   ·exact h1
   ·exact uq h p hp
  ·cases h
theorem ur{H:AH}:∀ {l:List PB},B7 H l=true -> ∀p∈l,KD H p=true
 | [],_,p,hp=>by simp at hp
 | q::l,h,p,hp=>by
  rw[B7] at h
  split at h
  ·rename_i h1
   rcases List.mem_cons.1 hp with rfl|hp
   ·exact h1
   ·exact ur h p hp
  ·cases h
theorem LR.plain_eq{ν:Nu}{l l':List Value}(h:LR ν l l'):xq l=true -> l'=l:=by
 induction h with
 | nil=>intro _;rfl
 | @cons v v' l l' h _ ih =>
  intro hp
  rw[xq] at hp
  split at hp
  ·rename_i hv;rw[VRi.plain_eq h hv,ih hp]
  ·cases hp
theorem KF{ν:Nu}{H:AH}(hH:HR ν H F w){p:PB}(hc:KE H p=true)(hp:xq p.2.1=true)(hν:ν p.1=some (p.1,p.2.1.length)):w.heap[p.1]?=some (oB p).2.den /\ ∃b,bP H p.1=some b:=by
 unfold KE at hc
 split at hc
 case h_2=>cases hc
 rename_i n t ty ww ro hb
 split at hc
 case h_2=>cases hc
 rename_i e1 e2 e3
 have e1:=Nat.eq_of_beq_eq_true e1
 have e2:=Nat.eq_of_beq_eq_true e2
 have e3:=Nat.eq_of_beq_eq_true e3
 have e4:=B8 _ _ hc
 obtain⟨c,ty',fz,g1,g2⟩:=hH.cells hb hν
 refine⟨?_,_,hb⟩
 have hr:=ke g2.le g2.get n 0 (by omega)
 rw[e4] at hr
 have hl:=hr.plain_eq hp
 have ID:=g2.gr (by omega)
 rw[e3,Nat.mul_one] at ID
 rw[eh] at e1
 rw[g1,g2.ty,g2.fz,e2]
 simp only[oB,Blk.den]
 congr 2
 apply Array.ext'
 rw[List.drop_zero] at hl
 rw[<- hl,List.take_of_length_le]
 have:c.toList.length=c.size:=rfl
 omega
theorem r8:∀ {l:List PB},(l.map (·.1)).Nodup -> ∀ {p q:PB},p∈l -> q∈l -> q.1=p.1 -> q=p
 | [],_,p,q,hp,_,_=>by simp at hp
 | x::l,hd,p,q,hp,hq,e=>by
  simp only[List.map_cons,List.nodup_cons] at hd
  rcases List.mem_cons.1 hp with h1|h1 <;> rcases List.mem_cons.1 hq with h2|h2
  ·rw[h1,h2]
  ·exact absurd (List.mem_map.2 ⟨q,h2,by rw[e,h1]⟩) hd.1
  ·exact absurd (List.mem_map.2 ⟨p,h1,by rw[<- e,h2]⟩) hd.1
  ·exact r8 hd.2 h1 h2 e
def Nq(tabs picks:List PB)(v0:Value):Option Rs -> Bool
 | some (.fn v H _)=>match sO v v0,rZ v0,Cb H tabs with
  | true,true,true=>B7 H picks
  | _,_,_=>false
 | _=>false
theorem LR.plain_refl{ν:Nu}:∀ {l:List Value},xq l=true -> LR ν l l
 | [],_=>.nil
 | v::l,h=>by
  rw[xq] at h
  split at h
  ·rename_i hv;exact .cons (VRi.plain_refl v hv) (LR.plain_refl h)
  ·cases h
theorem us{P:Program}(hm:P.follows .mixedOrders=true){k n0:Nat}{f:FuncId}{args:List Value}{v0:Value}(hG:Nat.ble G n0=true)(ht:yg G tabs=true)(ha:xq args=true)
  (Tv:(tabs.map (·.1)++picks.map (·.1)).Nodup) (f_:Nq tabs picks v0 (HB P G k (.fn f args (ye tabs) n0))=true) :
  Sp P f ⟨args⟩ (tabs.map oB) F λ v' H'=>∃ν rest,v'=mC ν v0 /\ H'=tabs.map oB++picks.map (r7 ν rest):=by
 intro w hR
 have hG:=bQ hG
 cases SD:HB P G k (.fn f args (ye tabs) n0) with
 | none=>rw[SD] at f_;cases f_
 | some res=>cases res with
  | cd e s=>rw[SD] at f_;cases f_
  | fn v H n' =>
   rw[SD] at f_
   simp only[Nq] at f_
   split at f_
   case h_2=>cases f_
   rename_i q1 q2 q3
   rw[B5] at SD
   obtain⟨hn,R5⟩:=BQ hm k _ _ SD
   have iF:∀p∈tabs,p.1<G:=λ p hp=>(mm ht p hp).1
   refine(R5 (yf tabs G) F w args (λ k hk=>⟨_,if_pos hk⟩) (λ h h1 h2=>by simp only[yf];rw[if_neg (by omega)]) (Np ht hR) (LR.plain_refl ha)).mono ?_
   rintro e w' ⟨ν,v',rfl,hv,hext,hH,hbel⟩
   rw[z8 _ _ q1] at hv
   have hνt:∀p∈tabs,ν p.1=yf tabs G p.1:=λ p hp=>hext.out _ (.inl (by have:=iF p hp;omega))
   have Vx:∀p∈tabs,ν p.1=some (p.1,p.2.1.length):=λ p hp=>by
    rw[hνt p hp]
    simp only[yf,if_pos (iF p hp)]
    congr 2
    have hd:(tabs.map (·.1)).Nodup:=(List.nodup_append.1 Tv).1
    cases hf:tabs.find? (λ q=>q.1 == p.1) with
    | none=>exact absurd (List.find?_eq_none.1 hf p hp) (by simp)
    | some q =>
     obtain⟨hq,QY⟩:=pr hf
     have:q=p:=r8 hd hp hq QY
     simp[this]
   have Z2:∀p∈tabs,w'.heap[p.1]?=some (oB p).2.den /\ ∃b,bP H p.1=some b:=λ p hp=>KF hH (uq q3 p hp) (mm ht p hp).2 (Vx p hp)
   have hpk:∀p∈picks,(∃K,ν p.1=some (vF ν p.1,K)) /\ (∃b,bP H p.1=some b) /\ w'.heap[vF ν p.1]?=some (r7 ν (pq ν w') p).2.den:=λ p hp=>HE hH (ur f_ p hp)
   refine⟨v',tabs.map oB++picks.map (r7 ν (pq ν w')),rfl,⟨ν,pq ν w',B6 hv q2,rfl⟩,⟨?_,?_⟩,hbel⟩
   ·intro x hx
    rcases List.mem_append.1 hx with hx|hx
    ·rcases List.mem_append.1 hx with hx|hx
     ·obtain⟨p,hp,rfl⟩:=List.mem_map.1 hx
      exact(Z2 p hp).1
     ·obtain⟨p,hp,rfl⟩:=List.mem_map.1 hx
      exact(hpk p hp).2.2
    ·exact hH.frm x hx
   ·-- the handles' blocks
    have Q0:∀h∈tabs.map (·.1)++picks.map (·.1),∃K b,ν h=some (vF ν h,K) /\ bP H h=some b:=λ h hh=>by
     rcases List.mem_append.1 hh with hh|hh
     ·obtain⟨p,hp,rfl⟩:=List.mem_map.1 hh
      obtain⟨b,hb⟩:=(Z2 p hp).2
      exact⟨p.2.1.length,b,by simp[vF,Vx p hp],hb⟩
     ·obtain⟨p,hp,rfl⟩:=List.mem_map.1 hh
      obtain⟨⟨K,h1⟩,⟨b,hb⟩,-⟩:=hpk p hp
      exact⟨K,b,h1,hb⟩
    have e1:(tabs.map oB++picks.map (r7 ν (pq ν w'))).map (·.1)=(tabs.map (·.1)++picks.map (·.1)).map (vF ν):=by
     simp only[List.map_append,List.map_map]
     congr 1
     apply List.map_congr_left
     intro p hp
     simp[oB,vF,Vx p hp]
    rw[List.map_append,List.nodup_append,e1]
    refine⟨?_,?_,λ a ha b hb=>?_⟩
    ·rw[List.Nodup,List.pairwise_map]
     refine(List.pairwise_iff_forall_sublist.2 λ {a b} hs=>?_)
     have YP:=Q0 a (hs.subset (by simp))
     have R6:=Q0 b (hs.subset (by simp))
     obtain⟨K1,b1,x1,x2⟩:=YP
     obtain⟨K2,b2,y1,y2⟩:=R6
     intro e
     have hab:a=b:=hH.inj _ _ _ _ _ _ _ x2 y2 x1 (by rw[e];exact y1)
     have:=Tv.sublist hs
     simp[hab] at this
    ·have:=hR.nodup
     rw[List.map_append,List.nodup_append] at this
     exact this.2.1
    ·obtain⟨h,hh,rfl⟩:=List.mem_map.1 ha
     obtain⟨x,hx,rfl⟩:=List.mem_map.1 hb
     obtain⟨K,b,g1,g2⟩:=Q0 h hh
     exact(hH.apt _ _ _ _ g2 g1 x hx).symm
end
end
theorem HF{P:Program}{f:FuncId}{args:Array Value}{x:Nat × Blk}{F:HL}{Q:Value -> HL -> Prop}(hx:x∈F)(h:∀F0,Sp P f args [x] F0 λ u H'=>∃Hp,Q u Hp /\ H'=[x]++Hp):Sp P f args [] F Q:=by
 obtain⟨l1,l2,rfl⟩:=List.append_of_mem hx
 have hp:∀H:HL,([x]++H++(l1++l2)).Perm (H++(l1++x::l2)):=λ H=>by
  refine List.Perm.trans ?_ (List.Perm.append_left H List.perm_middle.symm)
  show (x::(H++(l1++l2))).Perm (H++x::(l1++l2))
  exact List.perm_middle.symm
 intro w hR
 have VK:Rel ([x]++(l1++l2)) w:=hR.perm (by have:=hp [];simpa using this)
 refine(h (l1++l2) w VK).mono ?_
 rintro e w' ⟨v,H',he,⟨Hp,hq,rfl⟩,Q1,hb⟩
 exact⟨v,Hp,he,hq,Q1.perm (hp Hp).symm,hb⟩
noncomputable section
def iv(x:Int):Value:=.int .i64 x
def yh:List Value:=[iv 0,iv 0,iv 0,iv 1,iv 0,iv 1,iv 1,iv 0,iv 1,iv 1,iv 2,iv 0,iv 0,iv 1,iv 0,iv 1,iv 0,iv 1,iv 2,iv 1,iv 2,iv 1,iv 2,iv 1,iv 2,iv 1,iv 1,iv 1,iv 2,iv 1,iv 2,iv 1,iv 2,iv 1,iv 1,iv 1,iv 0,iv 0,iv 1,iv 0,iv 2,iv 0,iv 0,iv 0]
def mO:List PB:=[(1,yh,259)]
def O7:String:="on tick { n = n + 1; if n >= 3 { effect 1, n; n = 0; } }"
def O8:String:="on act { vx[self] = vx[self] + 100 * other; effect 2, self; } on hit { a[self] = a[self] + 1; effect 3, other; }"
def O9:String:="on hit { if hit[other] == self + 1 && a[self] < a[other] { vx[self] = -vx[self]; b[self] = tick; } else { stop; } effect 4, a[self]; }"
def Pa:String:="on tick { i = 0; while i < 4 { b[i] = b[i] + still[i]; i = i + 1; } s = s + x[0] / 100; effect 5, s; } on act { s = 0; }"
def Pb:List Value:=[iv 2,iv 0,iv 1,iv 1,iv 9,iv 0,iv 3,iv 0,iv 1,iv 3,iv 2,iv 0,iv 15,iv 0,iv 19,iv 14,iv 1,iv 1,iv 2,iv 0,iv 20,iv 0,iv 1,iv 0,iv 3,iv 0,iv 18,iv 14,iv 21,iv 0]
def Pc:List Value:=[iv 6,iv 0,iv 6,iv 0,iv 4,iv 2,iv 1,iv 100,iv 7,iv 0,iv 11,iv 0,iv 9,iv 0,iv 5,iv 2,iv 1,iv 2,iv 6,iv 0,iv 20,iv 0,iv 21,iv 0,iv 6,iv 0,iv 6,iv 0,iv 4,iv 4,iv 1,iv 1,iv 9,iv 0,iv 5,iv 4,iv 1,iv 3,iv 7,iv 0,iv 20,iv 0,iv 21,iv 0]
def Pd:List Value:=[iv 7,iv 0,iv 4,iv 6,iv 6,iv 0,iv 1,iv 1,iv 9,iv 0,iv 16,iv 0,iv 19,iv 13,iv 6,iv 0,iv 4,iv 4,iv 7,iv 0,iv 4,iv 4,iv 14,iv 0,iv 18,iv 14,iv 1,iv 0,iv 19,iv 24,iv 6,iv 0,iv 6,iv 0,iv 4,iv 2,iv 13,iv 0,iv 5,iv 2,iv 6,iv 0,iv 8,iv 0,iv 5,iv 5,iv 18,iv 25,iv 21,iv 0,iv 1,iv 4,iv 6,iv 0,iv 4,iv 4,iv 20,iv 0,iv 21,iv 0]
def Pf:List Value:=[iv 1,iv 0,iv 3,iv 0,iv 21,iv 0,iv 1,iv 0,iv 3,iv 1,iv 2,iv 1,iv 1,iv 4,iv 14,iv 0,iv 19,iv 21,iv 2,iv 1,iv 2,iv 1,iv 4,iv 5,iv 2,iv 1,iv 4,iv 7,iv 9,iv 0,iv 5,iv 5,iv 2,iv 1,iv 1,iv 1,iv 9,iv 0,iv 3,iv 1,iv 18,iv 5,iv 2,iv 0,iv 1,iv 0,iv 4,iv 0,iv 1,iv 100,iv 12,iv 0,iv 9,iv 0,iv 3,iv 0,iv 1,iv 5,iv 2,iv 0,iv 20,iv 0,iv 21,iv 0]
def D1(h len:Nat)(a b c:Int):Value:=.tuple ⟨[.agg ⟨[.slice (some ⟨h,0,none⟩) len l9,iv a,iv b,iv c]⟩,iv 0]⟩
def QP:Value:=.tuple ⟨[.agg ⟨[.slice none 0 0,iv (-1),iv (-1),iv (-1)]⟩,iv 0]⟩
def ut(src:String)(picks:List PB)(v:Value):Bool:=Nq mO picks v (HB Tryz.prog 4 100000 (.fn 59 [.string src.toUTF8] (ye mO) 4))
theorem mixed:Tryz.prog.follows .mixedOrders=true:=by kernel_rfl
theorem qC{src:String}{h:Nat}{cod:List Value}{ty:TypeId}{v:Value}{F:HL}(hh:h≠1)(hq:ut src [(h,cod,ty)] v=true) :
  Sp Tryz.prog 59 #[.string src.toUTF8] (mO.map oB) F λ v' H'=>∃ν rest,v'=mC ν v /\ H'=mO.map oB++[r7 ν rest (h,cod,ty)] :=
 us (G:=4) (tabs:=mO) (picks:=[(h,cod,ty)]) mixed rfl rfl rfl (by simp[mO,hh.symm]) hq
theorem KG:ut "" [] QP=true:=by kernel_rfl
end
theorem KH:ut O7 [(1096,Pb,155)] (D1 1096 15 (-1) 0 (-1))=true:=by kernel_rfl
theorem KJ:ut O8 [(1805,Pc,155)] (D1 1805 22 0 (-1) 12)=true:=by kernel_rfl
theorem KL:ut O9 [(2349,Pd,155)] (D1 2349 30 (-1) (-1) 0)=true:=by kernel_rfl
theorem KM:ut Pa [(2280,Pf,155)] (D1 2280 32 0 3 (-1))=true:=by kernel_rfl
noncomputable section
def pU:Nat -> ByteArray
 | 0=>"".toUTF8
 | 1=>O7.toUTF8
 | 2=>O8.toUTF8
 | 3=>O9.toUTF8
 | _=>Pa.toUTF8
def pv:Nat -> List Value
 | 0=>[]
 | 1=>Pb
 | 2=>Pc
 | 3=>Pd
 | _=>Pf
def cG:Nat -> Nat
 | 0=>0
 | 1=>15
 | 2=>22
 | 3=>30
 | _=>32
def KN:Nat -> List Value
 | 0=>[iv (-1),iv (-1),iv (-1)]
 | 1=>[iv (-1),iv 0,iv (-1)]
 | 2=>[iv 0,iv (-1),iv 12]
 | 3=>[iv (-1),iv (-1),iv 0]
 | _=>[iv 0,iv 3,iv (-1)]
inductive PrgV(j:Nat):Value -> HL -> Prop
 | nil:j=0 -> PrgV j (.slice none 0 0) []
 | some (b cap:Nat) (rest:List Value):PrgV j (.slice (some ⟨b,0,none⟩) (cG j) cap) [(b,.lit (pv j++rest) 155 (0,0))]
theorem mr(ν:Nu)(h len:Nat)(a b c:Int):mC ν (D1 h len a b c)=.tuple ⟨[.agg ⟨[.slice (some ⟨vF ν h,0,none⟩) len (QO ν h l9),iv a,iv b,iv c]⟩,iv 0]⟩:=by
 simp only[D1,mC,HC,HD,iv]
theorem HG{j:Nat}(hj:j<5){F:HL}:Sp Tryz.prog 59 #[.string (pU j)] (mO.map oB) F λ u H'=>∃s Hp,PrgV j s Hp /\ u=.tuple ⟨[.agg ⟨s::KN j⟩,iv 0]⟩ /\ H'=mO.map oB++Hp:=by
 match j,hj with
 | 0,_ =>
  refine(us (G:=4) (tabs:=mO) (picks:=[]) mixed rfl rfl rfl (by simp[mO]) KG).mono ?_
  rintro u H' ⟨ν,rest,rfl,rfl⟩
  exact⟨_,[],.nil rfl,rfl,rfl⟩
 | 1,_ =>
  refine(qC (by decide) KH).mono ?_
  rintro u H' ⟨ν,rest,rfl,rfl⟩
  exact⟨_,_,.some _ _ _,mr ..,rfl⟩
 | 2,_ =>
  refine(qC (by decide) KJ).mono ?_
  rintro u H' ⟨ν,rest,rfl,rfl⟩
  exact⟨_,_,.some _ _ _,mr ..,rfl⟩
 | 3,_ =>
  refine(qC (by decide) KL).mono ?_
  rintro u H' ⟨ν,rest,rfl,rfl⟩
  exact⟨_,_,.some _ _ _,mr ..,rfl⟩
 | 4,_ =>
  refine(qC (by decide) KM).mono ?_
  rintro u H' ⟨ν,rest,rfl,rfl⟩
  exact⟨_,_,.some _ _ _,mr ..,rfl⟩
theorem KO{j:Nat}(hj:j<5){F:HL}(hF:(1,Blk.lit yh 259 (0,0))∈F):Sp Tryz.prog 59 #[.string (pU j)] [] F λ u H'=>∃s,PrgV j s H' /\ u=.tuple ⟨[.agg ⟨s::KN j⟩,iv 0]⟩ :=
 HF hF λ F0=>(HG hj).mono λ u H' ⟨s,Hp,h1,h2,h3⟩=>⟨Hp,⟨s,h1,h2⟩,h3⟩
end
def bB(j k:Nat):Int:=match (KN j)[k]? with|some (.int _ x)=>x|_=>0
def LX:List Value -> List Ins
 | .int _ a :: .int _ b::r=>⟨a,b⟩::LX r
 | _=>[]
def fO(j:Nat):List Ins:=LX (pv j)
theorem lL:∀ {j:Nat},j<5 -> (fO j).length=cG j
 | 0,_=>by kernel_rfl
 | 1,_=>by kernel_rfl
 | 2,_=>by kernel_rfl
 | 3,_=>by kernel_rfl
 | 4,_=>by kernel_rfl
 | j+5,h=>absurd h (by omega)
theorem nz:∀ {j:Nat},j<5 -> pv j=ay iq (fO j)
 | 0,_=>by kernel_rfl
 | 1,_=>by kernel_rfl
 | 2,_=>by kernel_rfl
 | 3,_=>by kernel_rfl
 | 4,_=>by kernel_rfl
 | j+5,h=>absurd h (by omega)
theorem qD:∀ {j:Nat},j<5 -> cG j <= 32
 | 0,_=>by decide
 | 1,_=>by decide
 | 2,_=>by decide
 | 3,_=>by decide
 | 4,_=>by decide
 | j+5,h=>absurd h (by omega)
theorem KP:∀ {j:Nat},j<5 -> KN j=[vI (bB j 0),vI (bB j 1),vI (bB j 2)]
 | 0,_=>by kernel_rfl
 | 1,_=>by kernel_rfl
 | 2,_=>by kernel_rfl
 | 3,_=>by kernel_rfl
 | 4,_=>by kernel_rfl
 | j+5,h=>absurd h (by omega)
abbrev pV(F:HL):Prop:=(1,Blk.lit yh 259 (0,0))∈F
def InsW(F:HL)(j:Nat)(A:Option Addr):Prop:=0<cG j -> ∃b rest,A=some ⟨b,0,none⟩ /\ (b,Blk.lit (pv j++rest) 155 (0,0))∈F
structure CodT(j:Nat)(A:Option Addr)(T:HL):Prop where
 src:∀F,(∀x∈T,x∈F) -> SrcIn Tryz.prog iq F A (cG j) (fO j)
 wrd:∀F,(∀x∈T,x∈F) -> InsW F j A
theorem HH{j:Nat}(hj:j<5)(F:HL)(hE:pV F):Sp Tryz.prog 59 #[.string (pU j)] (ap [] []) F (λ u H'=>∃x:Option Addr × Nat × HL,H'=ap [] [x.2.2] /\ (u=.tuple #[.agg #[.slice x.1 (cG j) x.2.1,vI (bB j 0),vI (bB j 1),vI (bB j 2)],vI 0] /\ CodT j x.1 x.2.2)):=by
 refine(KO hj hE).mono ?_
 rintro u H' ⟨s,hp,rfl⟩
 rw[KP hj]
 cases hp with
 | nil h0 =>
  subst h0
  exact⟨(none,0,[]),(bD _).symm,rfl,⟨λ F hF=>SrcIn.none,λ F hF h=>absurd h (by decide)⟩⟩
 | some b cap rest =>
  refine⟨(some ⟨b,0,none⟩,cap,[(b,.lit (pv j++rest) 155 (0,0))]),(bD _).symm,rfl,⟨λ F hF=>?_,λ F hF h=>⟨b,rest,rfl,hF _ (List.mem_singleton.2 rfl)⟩⟩⟩
  have h:=SrcIn.lit Fx (xs:=fO j) (rest:=rest) (ty:=155) (fz:=(0,0)) (F:=F) (q:=b) (by rw[<- nz hj];exact hF _ (List.mem_singleton.2 rfl))
  rw[lL hj] at h
  exact h
inductive Book1(j bp:Nat):HL -> Prop
 | mk (q:Nat) (A:Option Addr) (c:Nat) (T:HL) (h:CodT j A T):Book1 j bp (ap [(bp,.lit [vS q 0 1 1] 105 (0,0)),(q,.lit [vI 0,.slice A (cG j) c,vI (bB j 0),vI (bB j 1),vI (bB j 2)] 111 (0,0))] [T])
def Pg:List Value:=[.string ⟨#[]⟩,.string ⟨#[111,110,32,116,105,99,107,32,123,32,110,32,61,32,110,32,43,32,49,59,32,105,102,32,110,32,62,61,32,51,32,123,32,101,102,102,101,99,116,32,49,44,32,110,59,32,110,32,61,32,48,59,32,125,32,125]⟩,.string ⟨#[111,110,32,97,99,116,32,123,32,118,120,91,115,101,108,102,93,32,61,32,118,120,91,115,101,108,102,93,32,43,32,49,48,48,32,42,32,111,116,104,101,114,59,32,101,102,102,101,99,116,32,50,44,32,115,101,108,102,59,32,125,32,111,110,32,104,105,116,32,123,32,97,91,115,101,108,102,93,32,61,32,97,91,115,101,108,102,93,32,43,32,49,59,32,101,102,102,101,99,116,32,51,44,32,111,116,104,101,114,59,32,125]⟩,.string ⟨#[111,110,32,104,105,116,32,123,32,105,102,32,104,105,116,91,111,116,104,101,114,93,32,61,61,32,115,101,108,102,32,43,32,49,32,38,38,32,97,91,115,101,108,102,93,32,60,32,97,91,111,116,104,101,114,93,32,123,32,118,120,91,115,101,108,102,93,32,61,32,45,118,120,91,115,101,108,102,93,59,32,98,91,115,101,108,102,93,32,61,32,116,105,99,107,59,32,125,32,101,108,115,101,32,123,32,115,116,111,112,59,32,125,32,101,102,102,101,99,116,32,52,44,32,97,91,115,101,108,102,93,59,32,125]⟩,.string ⟨#[111,110,32,116,105,99,107,32,123,32,105,32,61,32,48,59,32,119,104,105,108,101,32,105,32,60,32,52,32,123,32,98,91,105,93,32,61,32,98,91,105,93,32,43,32,115,116,105,108,108,91,105,93,59,32,105,32,61,32,105,32,43,32,49,59,32,125,32,115,32,61,32,115,32,43,32,120,91,48,93,32,47,32,49,48,48,59,32,101,102,102,101,99,116,32,53,44,32,115,59,32,125,32,111,110,32,97,99,116,32,123,32,115,32,61,32,48,59,32,125]⟩]
def Nr:Nat -> Nat -> Value:=λ i k=>match k with|0=>.string (pU i)|_=>default
theorem yi(F:HL):Sp Tryz.prog 60 #[] (ap [] []) F (λ u H'=>∃q:Nat,H'=ap [(q,.lit Pg 9 (0,0))] [] /\ u=vS q 0 5 5):=by
 refine Sp.run Tryz.func60 rfl mn (A:=[]) (Ts:=[]) rfl λ w0=>?_
 refine ae 11 [] λ n1=>RN.ret [] [0] [] (v:=vS (n1+0) 0 5 5) (H':=(ap [((n1+0),.lit Pg 9 (0,0))] [])) ?_
 exact⟨_,rfl,rfl⟩
theorem sa(n:Int)(F:HL)(hn:ol n):Sp Tryz.prog 32 #[vI n] [] F (λ u H'=>u=.string (pU (au n 5).toNat) /\ H'=[]):=by
 refine Sp.run Tryz.func32 rfl mn (A:=[]) (Ts:=[]) rfl λ w0=>?_
 refine ae 7 [] λ _=>RN.ct (Hp:=[]) (Tp:=[]) [] [] (yi _) ?_
 rintro _ q1 rfl
 refine ae 1 [] λ _=>RN.cp (gt n 5 (by decide) _) ?_
 have hA2:=cq (n:=n) hn 5 (by decide)
 refine RN.dn 0 (.rows 1 5 Nr 9 (0,0))<|ai 5 [.ix ((au n 5).toNat),.row 0 ((au n 5).toNat) 0] [(0+((au n 5).toNat)*1)=((au n 5).toNat)*1+0 /\ ((au n 5).toNat)<5,au n 5=(((au n 5).toNat:Nat):Int) /\ (au n 5).toNat<5] λ _=>?_
 exact RN.ret [] [] [] ⟨rfl,rfl⟩
theorem HI(j:Nat)(F:HL)(hj:j<5)(hE:pV F):Sp Tryz.prog 31 #[.string (pU j)] (ap [] []) F (λ u H'=>∃x:Nat × HL,H'=ap [] [x.2] /\ (u=.tuple #[vP x.1 0,vI 0] /\ Book1 j x.1 x.2)):=by
 refine Sp.run Tryz.func31 rfl mn (A:=[]) (Ts:=[]) rfl λ w0=>?_
 refine ae 9 [] λ _=>RN.ct (Hp:=[]) (Tp:=[]) [] [] (HH hj _ (aq hE)) ?_
 rintro _ ⟨A1,c2,T3⟩ ⟨rfl,hC4⟩
 dsimp only at hC4
 refine ae 29 (ow 0 8) λ n5=>RN.ret [] [0,1] [0] (v:=.tuple #[vP (n5+2) 0,vI 0]) (H':=(ap [((n5+2),.lit [vS (n5+1) 0 1 1] 105 (0,0)),((n5+1),.lit [vI 0,.slice A1 (cG j) c2,vI (bB j 0),vI (bB j 1),vI (bB j 2)] 111 (0,0))] [T3])) ?_
 exact⟨((n5+2),ap [((n5+2),.lit [vS (n5+1) 0 1 1] 105 (0,0)),((n5+1),.lit [vI 0,.slice A1 (cG j) c2,vI (bB j 0),vI (bB j 1),vI (bB j 2)] 111 (0,0))] [T3]),by simp[ap],rfl,.mk _ _ _ _ hC4⟩
open Go.Shelf
def SpD(P:Program)(f:FuncId)(args:Array Value)(H F:HL)(R:Value -> HL -> Prop):Prop :=
 ∀w,Rel (H++F) w -> CallsDIn (Wr none) 0 P f args .returning w λ e u' w'=>u'=.returning /\ ∃v H',e=.returned v /\ R v H' /\ Rel (H'++F) w' /\ Below 0 w w'
theorem SpD.mono{P:Program}{f:FuncId}{args:Array Value}{H F:HL}{R R':Value -> HL -> Prop}(h:SpD P f args H F R)(hr:∀v H',R v H' -> R' v H'):SpD P f args H F R' :=
 λ w hR=>(h w hR).mono λ e u' w' ⟨h0,v,H',h1,h2,h3,h4⟩=>⟨h0,v,H',h1,hr _ _ h2,h3,h4⟩
section
variable {r:Option Nat} {P:Program} {N:Nat} {D:List Deferred} {F:HL} {w0:World} {R:HL} {s:Cfg} {Q:Exit -> Act -> World -> Prop}
def dfR(N:Nat)(s:Cfg):Option (FuncId × Array Value × Array Value):=match p7 s with
 | some o=>match o.guard,o.op,(fg N o.dst undef s.L).isSome with
  | none,.defer c,true=>match c.callee with
   | .value f=>match kR s.L f && c.args.toList.all (kR s.L) with
    | true=>match ik s.L f with
     | .func (.func g) first cap=>some (g,first++c.args.map (ik s.L),cap)
     | _=>none
    | false=>none
   | _=>none
  | _,_,_=>none
 | none=>none
abbrev Ph(g:FuncId)(args cap:Array Value):Deferred:={ target:=.fn (.func g) cap,args:=args }
theorem Cc{L:FL}{a:Act}(hF:Fm N D L a):∀ (l:List Operand),l.all (kR L)=true -> l.map a.eval=l.map (ik L)
 | [],_=>rfl
 | x::l,h=>by
  rw[List.all_cons,Bool.and_eq_true] at h
  rw[List.map_cons,List.map_cons,hF.eval h.1,Cc hF l h.2]
theorem Pi{g:FuncId}{args cap:Array Value}(hk:RN none P N (Ph g args cap::D) F w0 R (fD N undef s) Q)(h:dfR N s=some (g,args,cap):=by kernel_rfl):RN none P N D F w0 R s Q:=by
 refine⟨λ hR a w hF aT hB=>?_⟩
 obtain⟨cc,kk,L,A,Ts⟩:=s
 unfold dfR at h
 split at h
 case h_2=>cases h
 rename_i o q0
 split at h
 case h_2=>cases h
 rename_i c q1 q2 q3
 split at h
 case h_2=>cases h
 rename_i f q4
 split at h
 case h_2=>cases h
 rename_i q5
 split at h
 case h_2=>cases h
 rename_i g' first bY q6
 simp only[Option.some.injEq,Prod.mk.injEq] at h
 obtain⟨e1,e2,e3⟩:=h
 subst e1;subst e2;subst e3
 unfold p7 at q0
 cases cc with
 | code c=>cases q0
 | ex c=>cases q0
 | drw _ _=>cases q0
 | ops ops j =>
  simp only at q0 q3 q5 q6 hF aT
  have K_:ops.toList.drop j=o::ops.toList.drop (j+1):=by
   have iF:j<ops.toList.length:=(List.getElem?_eq_some_iff.1 q0).1
   rw[List.drop_eq_getElem_cons iF,(List.getElem?_eq_some_iff.1 q0).2]
  show wpListIn _ _ _ _ _ _ _ _
  rw[K_,wpListIn,if_pos (by simp[Region.wanted,q1])]
  refine⟨λ _ _=>trivial,?_⟩
  rw[Bool.and_eq_true] at q5
  obtain⟨L',hl⟩:=eJ q3 undef
  have RZ:fD N undef ⟨.ops ops j,kk,L,A,Ts⟩=⟨.ops ops (j+1),kk,L',A,Ts⟩:=by
   unfold fD
   simp only[q0,hl]
  have hh:=hk.h hR
  rw[RZ] at hh
  have Uv:c.args.map a.eval=c.args.map (ik L):=by
   apply Array.ext'
   rw[Array.toList_map,Array.toList_map]
   exact Cc hF _ q5.2
  have e1:a.eval f=.func (.func g') first bY:=(hF.eval q5.1).trans q6
  have hex:(o.semAt (Wr none).round a.eval).run P w=.ok (.defer (Ph g' (first++c.args.map (ik L)) bY)) w:=by
   show (Oper.semAt none a.eval o).run P w=_
   rw[Oper.semAt_none]
   simp only[execOp,q2,resolve,q4,e1,Deferred.ofValue,Sem.run_bind,Uv]
   rfl
  rw[hex,Oper.uponIn_defer]
  have W8:Fm N (Ph g' (first++c.args.map (ik L)) bY::D) L { a with defers:=Ph g' (first++c.args.map (ik L)) bY::a.defers }:=⟨hF.size,by rw[<- hF.defs],hF.has⟩
  exact hh _ w (W8.put hl) aT hB
structure LV(P:Program)(N:Nat)(D:List Deferred)(F:HL)(w0:World)(R:HL)(fn:Func)(R':Value -> HL -> Prop)(s:Cfg):Prop where
 h:(∀y∈R,y∈F) -> ∀a w,Fm N D s.L a -> Rel (ap s.A s.Ts++F) w -> Below 0 w0 w -> LeavesInM (Wr none) 0 P fn a.tmps (AZ F w0 R') a.defers .returning w
theorem Pj{fn:Func}{R':Value -> HL -> Prop}(hk:LV P N D F w0 R fn R' s)(hc:mZ s=true:=by kernel_rfl):RN none P N D F w0 R s (bodyPostM (Wr none) 0 P fn (AZ F w0 R')):=by
 refine⟨λ hR a w hF aT hB=>?_⟩
 have key:=hk.h hR a w hF aT hB
 exact oN hc key key
def Pk(ip jp:List Nat)(Hq:HL)(Tq:List HL)(s:Cfg):Cfg:=wi (λ A=>Hq++(oth ip A.length).filterMap (A[·]?)) (λ Ts=>Tq++(oth jp Ts.length).filterMap (Ts[·]?)) s
theorem Pl{τ:Type}{fn:Func}{R':Value -> HL -> Prop}{g:FuncId}{args cap:Array Value}(eg:∀args w,(callFunc g args).run P w=.ok (.enter g args) w)(ip jp:List Nat){Hp:HL}{Tp:List HL}{Hq:τ -> HL}{Tq:τ -> List HL}{Rv:Value -> τ -> Prop}
  (hc:SpD P g (args++cap) (ap Hp Tp) (ap (dF ip s) (eA jp s)++F) (λ v H'=>∃x,H'=ap (Hq x) (Tq x) /\ Rv v x)) (hk:∀v x,Rv v x -> LV P N D F w0 R fn R' (Pk ip jp (Hq x) (Tq x) s))
  (hp:bK ip jp s=true:=by kernel_rfl) (hH:picks ip jp s=(Hp,Tp):=by kernel_rfl):LV P N (Ph g args cap::D) F w0 R fn R' s:=by
 unfold bK at hp
 unfold picks at hH
 rw[Bool.and_eq_true] at hp
 simp only[Prod.mk.injEq] at hH
 obtain⟨e1,e2⟩:=hH
 refine⟨λ hR a w hF aT hB=>?_⟩
 have rW:(ap Hp Tp++ap (dF ip s) (eA jp s)).Perm (ap s.A s.Ts):=by
  have h1:=kx s.A s.Ts ip (oth ip s.A.length) jp (oth jp s.Ts.length) hp.1 hp.2
  rw[e1,e2] at h1
  exact h1
 have VK:Rel (ap Hp Tp++(ap (dF ip s) (eA jp s)++F)) w:=by rw[<- List.append_assoc];exact aT.perm (rW.append_right F)
 rw[hF.defs]
 refine⟨by simp,.inr ⟨(λ h=>by cases h),.func g,cap,g,args++cap,rfl,?_,λ _ _=>trivial,?_⟩⟩
 ·show (callFunc g (args++cap)).run P w=_
  exact eg _ _
 ·refine(hc w VK).mono ?_
  rintro e u' w' ⟨rfl,v,H',rfl,⟨x,rfl,hv⟩,R8,Tm⟩
  have:=(hk v x hv).h hR { a with defers:=D } w' ⟨hF.size,rfl,hF.has⟩ ?_ (hB.trans Tm)
  ·exact this
  ·unfold Pk
   rw[qm.1,qm.2.1]
   refine R8.perm ?_
   exact(uK _ _ _ _ _).symm
theorem KQ{fn:Func}{R':Value -> HL -> Prop}(hints:List Hint)(Ob:List Prop)(g_:AllP Ob)(ip jp:List Nat){v:Value}{H':HL}(hv:R' v H')
  (h:∀n0,jT P n0 fn.results.toList R hints s=some (v,nQ (jT P n0 fn.results.toList R hints s),nQ (jT P n0 fn.results.toList R hints s),Ob):=by intro n0;kernel_rfl)
  (hp:bK ip jp s=true:=by kernel_rfl) (hH:ap (picks ip jp s).1 (picks ip jp s).2=H':=by kernel_rfl):LV P N [] F w0 R fn R' s:=by
 unfold bK at hp
 unfold picks at hH
 refine⟨λ hR a w hF aT hB=>?_⟩
 rw[Bool.and_eq_true] at hp
 have h':=h w.heap.size
 unfold jT yY at h'
 split at h'
 case h_2=>cases h'
 rename_i vs ss hs
 split at h'
 case h_2=>cases h'
 simp only[nQ,Option.some.injEq,Prod.mk.injEq] at h'
 obtain⟨e1,-,e3,e4⟩:=h'
 have f_:=jR (P:=P) hF aT fn.results.toList _ _ _ hs rfl rfl hR (λ e=>by cases e) (fP rfl e3) (by rw[e4];exact AllP.mem g_)
 subst e1
 rw[hF.defs]
 exact⟨_,jm (by simp) f_,_,H',rfl,hv,aT.takeT ip _ jp _ hp.1 hp.2 hH,hB⟩
theorem LV.ret{fn:Func}{R':Value -> HL -> Prop}(hints:List Hint)(ip jp:List Nat){v:Value}{H':HL}(hv:R' v H')
 (h:∀n0,jT P n0 fn.results.toList R hints s=some (v,nQ (jT P n0 fn.results.toList R hints s),nQ (jT P n0 fn.results.toList R hints s),[]):=by intro n0;kernel_rfl)
 (hp:bK ip jp s=true:=by kernel_rfl) (hH:ap (picks ip jp s).1 (picks ip jp s).2=H':=by kernel_rfl):LV P N [] F w0 R fn R' s:=KQ hints [] trivial ip jp hv h hp hH
end
def P9(P:Program)(g:FuncId)(lb:Array Value)(own:HL)(F:HL){α:Type}(encs:α -> Array Value)(xs:List α)(Te Tx:HL -> Prop):Prop :=
 ∀ (X:HL) (l:Nat) (J:Nat -> HL -> Prop) (Jx:HL -> Prop) (H0:HL),(∀i x H Y,xs[i]?=some x -> J i H -> YL P l (encs x) H (Y++(X++F)) (λ b H'=>(b=true /\ J (i+1) H') \/ (b=false /\ Jx H'))) -> J 0 H0 ->
  Sp P g (#[.func (.yield l) #[] #[]]++lb) (H0++own) (X++F) (λ _ H'=>∃H1 T1,H'=H1++T1 /\ ((J xs.length H1 /\ Te T1) \/ (Jx H1 /\ Tx T1)))
section
variable {P:Program} {N:Nat} {D:List Deferred} {F:HL} {w0:World} {L:FL} {Q:Exit -> Act -> World -> Prop}
theorem D2{α σ τ:Type}{g:Operand}{ps:Array Tmp}{assign body:Code}{encs:α -> Array Value}{xs:List α}{gf:FuncId}{lb:Array Value}(hi:kR L g=true)(hg:ik L g=.func (.func gf) #[] lb)(eg:∀args w,(callFunc gf args).run P w=.ok (.enter gf args) w)
  (Hx:σ -> HL) (I:Nat -> σ -> Prop) (Ix:Code -> σ -> Prop) (La:τ -> FL) (Ha:τ -> HL) (Ia:Nat -> α -> τ -> Prop) (Vl:∀x,(encs x).size=ps.size) (R0:(ps.toList.all λ p=>decide (p<N))=true)
  (x0:σ) (h0:I 0 x0) {A:HL} {Ts:List HL} (ip ir jp jr:List Nat) (hp:(ip++ir).isPerm (List.range A.length)=true) (hj:(jp++jr).isPerm (List.range Ts.length)=true) (Hr:HL) (Tr:List HL) (V0:ir.filterMap (A[·]?)=Hr) (own:HL) {Te Tx:HL -> Prop} (VI:jr.filterMap (Ts[·]?)=own::Tr) (hH:ap (ip.filterMap (A[·]?)) (jp.filterMap (Ts[·]?))=Hx x0)
  (hit:P9 P gf lb own (ap Hr Tr++F) encs xs Te Tx)
  (iD:∀ (l i:Nat) (x:α) (s:σ) (Y:HL) (w1:World),xs[i]?=some x -> I i s -> TR (some l) P N [] (Y++(ap Hr Tr++F)) w1 (mY ps.toList (encs x).toList L) (Hx s) assign (Exit.then (Jo N [] (Y++(ap Hr Tr++F)) w1 La Ha (Ia i x)) (λ _ _ _=>False)))
  (D_:∀ (l i:Nat) (x:α) (t:τ) (Y:HL) (w1:World),xs[i]?=some x -> Ia i x t -> TR (some l) P N [] (Y++(ap Hr Tr++F)) w1 (La t) (Ha t) body (RQ (Y++(ap Hr Tr++F)) w1 Hx (I (i+1)) Ix))
  (DO:∀ (d:Nat) (s:σ) (T1:HL),I xs.length s -> Te T1 -> EX N (coll d::D) F w0 L (bu d::(Hx s++ap Hr (T1::Tr))) Q .normal)
  (BY:∀ (d:Nat) (c:Code) (s:σ) (T1:HL),Ix c s -> Tx T1 -> TR none P N (coll d::D) F w0 L (bu d::(Hx s++ap Hr (T1::Tr))) c Q) :
  TR none P N D F w0 L (ap A Ts) (.rangeFunc g ps assign body) Q:=by
 intro a w hF hR hB
 have hpo:∀ (X:HL) (T1:HL),((X++T1)++(ap Hr Tr++F)).Perm (X++(ap Hr (T1::Tr)++F)):=λ X T1=>by
  rw[List.append_assoc]
  refine List.Perm.append_left X ?_
  rw[<- List.append_assoc]
  refine List.Perm.append_right F ?_
  show (T1++(Hr++Tr.flatten)).Perm (Hr++(T1::Tr).flatten)
  rw[List.flatten_cons,<- List.append_assoc,<- List.append_assoc]
  exact List.Perm.append_right _ List.perm_append_comm
 have VK:Rel ((Hx x0++own)++(ap Hr Tr++F)) w:=by
  have h1:=kx A Ts ip ir jp jr hp hj
  rw[V0,VI,hH] at h1
  have h2:=hR.perm (h1.append_right F)
  rw[List.append_assoc] at h2
  exact h2.perm (hpo _ _)
 refine wpIn_rangeFunc ?_
 intro fn WT
 obtain⟨rec,C_⟩:∃rec:LoopState -> Option Code -> Loop,rec=λ st pe=>{ state:=st,pending:=pe,fn,tmps:=a.tmps,params:=ps,assign,body,defers:=w.heap.size }:=⟨_,rfl⟩
 obtain⟨W1,VH⟩:∃W1,(w.alloc (.deferred (some []))).alloc (.loop (rec .ready none))=W1:=⟨_,rfl⟩
 have XO:Below 0 w W1:=by rw[<- VH];exact(fh _).trans (fh _)
 have VJ:Rel ((w.heap.size+1,Blk.obj (.loop (rec .ready none)))::bu w.heap.size::((Hx x0++own)++(ap Hr Tr++F))) W1:=by
  rw[<- VH]
  have h1:=(VK.alloc (.obj (.deferred (some [])))).alloc (.obj (.loop (rec .ready none)))
  rw[World.size_alloc] at h1
  exact h1
 refine⟨w.heap.size+1,[coll w.heap.size],W1,{ target:=.fn (.func gf) lb,args:=#[.func (.yield (w.heap.size+1)) #[] #[]] },W1,gf,#[.func (.yield (w.heap.size+1)) #[] #[]]++lb,W1,?_,?_,?_,?_,λ h=>(by cases h),?_⟩
 ·rw[<- VH,C_];exact run_enterLoop_outer _ _ _ _ _
 ·have Vv:a.eval g=.func (.func gf) #[] lb:=(hF.eval hi).trans hg
  simp only[resolve,Vv]
  simp[Deferred.ofValue]
  rfl
 ·intro f' _;trivial
 ·simp[invoke,eg]
 ·refine iL ?_
  obtain⟨l,hl⟩:∃l,w.heap.size+1=l:=⟨_,rfl⟩
  rw[hl] at VJ ⊢
  obtain⟨d,hd⟩:∃d,w.heap.size=d:=⟨_,rfl⟩
  rw[hd] at VJ C_ ⊢
  have key:=hit [] l (λ i H'=>∃s,I i s /\ H'=(l,Blk.obj (.loop (rec .ready none)))::bu d::Hx s) (λ H'=>∃c s,Ix c s /\ H'=(l,Blk.obj (.loop (rec .done (some c))))::bu d::Hx s)
   ((l,Blk.obj (.loop (rec .ready none)))::bu d::Hx x0) ?round ⟨x0,h0,rfl⟩ W1 VJ
  case round =>
   rintro i x H' Y hx ⟨s,hs,rfl⟩ W aT
   have Q4:Rel ((l,Blk.obj (.loop (rec .ready none)))::(bu d::(Hx s++(Y++(ap Hr Tr++F))))) W:=aT
   have hlW:W.heap[l]?=some (.loop (rec .ready none)):=Q4.holds _ List.mem_cons_self
   have hy:=run_yield (P:=P) (args:=encs x) hlW (by rw[C_];exact Vl x)
   rw[C_] at hy
   refine⟨fn,_,assign,body,hy,roundIn_of_wpIn (F:=Wr none) (n:=0) WT ?_⟩
   have hFm:Fm N [] (mY ps.toList (encs x).toList L) { tmps:=(ps.zip (encs x)).foldl (λ t (p,v)=>t.setIfInBounds p v) a.tmps,defers:=[] }:=by
    have h1:=Fm.zip (D:=[]) ps.toList (encs x).toList L a.tmps (λ p hp=>of_decide_eq_true (List.all_eq_true.1 R0 p hp)) ⟨hF.size,rfl,hF.has⟩
    have e:(ps.zip (encs x)).foldl (λ t (p,v)=>t.setIfInBounds p v) a.tmps=(ps.toList.zip (encs x).toList).foldl (λ t (p,v)=>t.setIfInBounds p v) a.tmps:=by
     rw[<- Array.foldl_toList,Array.toList_zip]
    rw[e]
    exact h1
   have hRA:Rel (Hx s++(((l,Blk.obj (.loop (rec .ready none)))::bu d::Y)++(ap Hr Tr++F))) W:=by
    have:=Q4
    refine this.perm ?_
    simp only[List.cons_append]
    refine List.perm_middle.trans ?_
    refine List.Perm.cons _ ?_
    exact List.perm_middle
   refine wpIn_mono (iD l i x s ((l,Blk.obj (.loop (rec .ready none)))::bu d::Y) W hx hs _ W hFm hRA (Below.refl _ _)) ?_
   intro e a1 Wa hq
   cases e with
   | normal =>
    obtain⟨t,ht,m1,m2,m3⟩:=hq
    have XK:Rel ((l,Blk.obj (.loop (rec .ready none)))::(bu d::(Ha t++(Y++(ap Hr Tr++F))))) Wa:=by
     refine m2.perm ?_
     simp only[List.cons_append]
     refine(List.Perm.trans ?_ List.perm_middle.symm)
     refine List.Perm.cons _ ?_
     exact List.perm_middle.symm
    have hla:Wa.heap[l]?=some (.loop (rec .ready none)):=XK.holds _ List.mem_cons_self
    refine⟨_,run_beginRound hla (by rw[C_]),?_⟩
    have hRc:=XK.putObj (F:=[]) (.obj (.loop { rec .ready none with state:=.busy }))
    have R7:Rel (Ha t++(((l,Blk.obj (.loop { rec .ready none with state:=.busy }))::bu d::Y)++(ap Hr Tr++F))) (Wa.putObj l (.loop { rec .ready none with state:=.busy })):=by
     refine hRc.perm ?_
     simp only[List.cons_append]
     refine List.perm_middle.trans ?_
     refine List.Perm.cons _ ?_
     exact List.perm_middle
    refine wpIn_mono (D_ l i x t ((l,Blk.obj (.loop { rec .ready none with state:=.busy }))::bu d::Y) W hx ht a1 _ m1 R7 (m3.trans (cz _ _))) ?_
    have fin:∀ (jump:Option Code) (s':σ) (W3:World),Rel (Hx s'++(((l,Blk.obj (.loop { rec .ready none with state:=.busy }))::bu d::Y)++(ap Hr Tr++F))) W3 -> Below 0 W W3 ->
      ∃v w',(Instr.endRound l jump).run P W3=.ok v w' /\ v=.bool jump.isNone /\ Rel (((l,Blk.obj (.loop (rec (if jump.isNone then .ready else .done) jump)))::bu d::Hx s')++(Y++([]++(ap Hr Tr++F)))) w' /\ Below 0 W w':=by
     intro jump s' W3 h3 XJ
     have h4:Rel ((l,Blk.obj (.loop { rec .ready none with state:=.busy }))::(bu d::(Hx s'++(Y++(ap Hr Tr++F))))) W3:=by
      refine h3.perm ?_
      simp only[List.cons_append]
      refine(List.Perm.trans ?_ List.perm_middle.symm)
      refine List.Perm.cons _ ?_
      exact List.perm_middle.symm
     have Sf:W3.heap[l]?=some (.loop { rec .ready none with state:=.busy }):=h4.holds _ List.mem_cons_self
     have f_:=run_endRound (P:=P) jump Sf
     refine⟨_,_,f_,rfl,?_,XJ.trans (cz _ _)⟩
     have h5:=h4.putObj (F:=[]) (.obj (.loop (rec (if jump.isNone then .ready else .done) jump)))
     rw[C_] at h5 ⊢
     exact h5
    intro e2 a2 W3 QY
    cases e2 with
    | normal =>
     obtain⟨s',OF,n2,n3⟩:=QY
     obtain⟨v,w',k1,k2,k3,k4⟩:=fin none s' W3 n2 n3
     exact⟨v,w',k1,true,_,by rw[k2];rfl,.inl ⟨rfl,s',OF,rfl⟩,k3,k4⟩
    | ret =>
     obtain⟨s',OF,n2,n3⟩:=QY
     obtain⟨v,w',k1,k2,k3,k4⟩:=fin (some .ret) s' W3 n2 n3
     exact⟨v,w',k1,false,_,by rw[k2];rfl,.inr ⟨rfl,.ret,s',OF,rfl⟩,k3,k4⟩
    | exit id =>
     obtain⟨s',OF,n2,n3⟩:=QY
     obtain⟨v,w',k1,k2,k3,k4⟩:=fin (some (.exit id)) s' W3 n2 n3
     exact⟨v,w',k1,false,_,by rw[k2];rfl,.inr ⟨rfl,.exit id,s',OF,rfl⟩,k3,k4⟩
    | goto t=>exact QY.elim
    | panic ch=>exact QY.elim
    | outgrown=>exact QY.elim
   | exit id=>exact hq.elim
   | goto t=>exact hq.elim
   | ret=>exact hq.elim
   | panic ch=>exact hq.elim
   | outgrown=>exact hq.elim
  refine key.mono ?_
  rintro e W2 ⟨v,H',rfl,hor,R8,Tm⟩
  have fin:∀ (st:LoopState) (pe:Option Code) (s:σ) (T1:HL) (iS:st ≠ .busy),Rel ((((l,Blk.obj (.loop (rec st pe)))::bu d::Hx s)++T1)++([]++(ap Hr Tr++F))) W2 ->
    ∃w4,(Instr.endLoop l).run P W2=.ok pe w4 /\ Rel ((bu d::(Hx s++ap Hr (T1::Tr)))++F) w4 /\ Below 0 W1 w4:=by
   intro st pe s T1 iS h4
   have h5:Rel ((l,Blk.obj (.loop (rec st pe)))::(bu d::(Hx s++(ap Hr (T1::Tr)++F)))) W2:=h4.perm (((hpo (Hx s) T1).symm.cons _).cons _)
   have Rg:W2.heap[l]?=some (.loop (rec st pe)):=h5.holds _ List.mem_cons_self
   have f_:=run_endLoop (P:=P) Rg (by rw[C_];exact iS)
   refine⟨W2.putObj l (.loop { rec st pe with state:=.exhausted }),?_,?_,Tm.trans (cz _ _)⟩
   ·rw[f_,C_]
   ·have h6:=h5.putObj (F:=[]) (.obj (.loop { rec st pe with state:=.exhausted }))
    have h7:=Rel.drop (X:=[(l,Blk.obj (.loop { rec st pe with state:=.exhausted }))]) (H:=bu d::(Hx s++(ap Hr (T1::Tr)++F))) h6
    rw[<- List.append_assoc] at h7
    exact h7
  have XL:Fm N (coll d::D) L { a with defers:=[coll d]++a.defers }:=⟨hF.size,by rw[hF.defs];rfl,hF.has⟩
  rcases hor with ⟨H1,T1,rfl,⟨⟨s,hs,rfl⟩,hT⟩|⟨⟨c,s,hs,rfl⟩,hT⟩⟩
  ·obtain⟨w4,k1,k2,k3⟩:=fin .ready none s T1 (by simp) R8
   exact⟨none,w4,k1,DO d s T1 hs hT _ w4 XL k2 (hB.trans (XO.trans k3))⟩
  ·obtain⟨w4,k1,k2,k3⟩:=fin .done (some c) s T1 (by simp) R8
   exact⟨some c,w4,k1,BY d c s T1 hs hT _ w4 XL k2 (hB.trans (XO.trans k3))⟩
theorem Ag{α σ τ:Type}{g:Operand}{ps:Array Tmp}{assign body:Code}{encs:α -> Array Value}{xs:List α}{gf:FuncId}{lb:Array Value}(hi:kR L g=true)(hg:ik L g=.func (.func gf) #[] lb)(eg:∀args w,(callFunc gf args).run P w=.ok (.enter gf args) w)
  (Ax:σ -> HL) (Tx:σ -> List HL) (I:Nat -> σ -> Prop) (Ix:Code -> σ -> Prop) (La:τ -> FL) (Ha:τ -> HL) (Ia:Nat -> α -> τ -> Prop) (Vl:∀x,(encs x).size=ps.size) (R0:(ps.toList.all λ p=>decide (p<N))=true)
  (x0:σ) (h0:I 0 x0) {A:HL} {Ts:List HL} (ip ir jp jr:List Nat) (hp:(ip++ir).isPerm (List.range A.length)=true) (hj:(jp++jr).isPerm (List.range Ts.length)=true) (Hr:HL) (Tr:List HL) (V0:ir.filterMap (A[·]?)=Hr) (own:HL) {Te Tx':HL -> Prop} (VI:jr.filterMap (Ts[·]?)=own::Tr) (hA:ip.filterMap (A[·]?)=Ax x0) (hT:jp.filterMap (Ts[·]?)=Tx x0)
  (hit:P9 P gf lb own (ap Hr Tr++F) encs xs Te Tx')
  (iD:∀ (l i:Nat) (x:α) (s:σ) (Y:HL) (w1:World),xs[i]?=some x -> I i s -> TR (some l) P N [] (Y++(ap Hr Tr++F)) w1 (mY ps.toList (encs x).toList L) (ap (Ax s) (Tx s)) assign (Exit.then (Jo N [] (Y++(ap Hr Tr++F)) w1 La Ha (Ia i x)) (λ _ _ _=>False)))
  (D_:∀ (l i:Nat) (x:α) (t:τ) (Y:HL) (w1:World),xs[i]?=some x -> Ia i x t -> TR (some l) P N [] (Y++(ap Hr Tr++F)) w1 (La t) (Ha t) body (RQ (Y++(ap Hr Tr++F)) w1 (λ s=>ap (Ax s) (Tx s)) (I (i+1)) Ix))
  (DO:∀ (d:Nat) (s:σ) (T1:HL),I xs.length s -> Te T1 -> EX N (coll d::D) F w0 L (ap (bu d::(Ax s++Hr)) (Tx s++T1::Tr)) Q .normal)
  (BY:∀ (d:Nat) (c:Code) (s:σ) (T1:HL),Ix c s -> Tx' T1 -> TR none P N (coll d::D) F w0 L (ap (bu d::(Ax s++Hr)) (Tx s++T1::Tr)) c Q) :
  TR none P N D F w0 L (ap A Ts) (.rangeFunc g ps assign body) Q:=by
 have XB:∀ (d:Nat) (s:σ) (Tr:List HL),(ap (bu d::(Ax s++Hr)) (Tx s++Tr)).Perm (bu d::(ap (Ax s) (Tx s)++ap Hr Tr)):=λ d s Tr=>by
  show (bu d::((Ax s++Hr)++(Tx s++Tr).flatten)).Perm _
  refine List.Perm.cons _ ?_
  rw[List.flatten_append]
  show ((Ax s++Hr)++((Tx s).flatten++Tr.flatten)).Perm ((Ax s++(Tx s).flatten)++(Hr++Tr.flatten))
  rw[List.append_assoc,List.append_assoc]
  refine List.Perm.append_left _ ?_
  rw[<- List.append_assoc,<- List.append_assoc]
  exact List.Perm.append_right _ List.perm_append_comm
 exact D2 hi hg eg (λ s=>ap (Ax s) (Tx s)) I Ix La Ha Ia Vl R0 x0 h0 ip ir jp jr hp hj Hr Tr V0 own VI (by rw[hA,hT]) hit iD D_
  (λ d s T1 hs hT a w h1 h2 h3=>DO d s T1 hs hT a w h1 (h2.perm ((XB d s _).append_right F)) h3) (λ d c s T1 hs hT a w h1 h2 h3=>BY d c s T1 hs hT a w h1 (h2.perm ((XB d s _).append_right F)) h3)
end
section
variable {P:Program} {N:Nat} {D:List Deferred} {F:HL} {w0:World} {R:HL} {s:Cfg} {Q:Exit -> Act -> World -> Prop}
def KR(c:Fo)(d:Nat)(ip jp:List Nat)(A:HL)(Ts:List HL)(T1:HL)(s:Cfg):Cfg:=match s with
 | ⟨_,k,L,A',TE⟩=>⟨c,k,L,bu d::(A++(oth ip A'.length).filterMap (A'[·]?)),Ts++T1::((oth jp TE.length).filterMap (TE[·]?)).tail⟩
theorem D3{α σ τ:Type}{encs:α -> Array Value}{xs:List α}{gf:FuncId}{lb:Array Value}(eg:∀args w,(callFunc gf args).run P w=.ok (.enter gf args) w)
  (S:σ -> HL × List HL) (I:Nat -> σ -> Prop) (Ix:Code -> σ -> Prop) (W:τ -> Inv) (Ia:Nat -> α -> τ -> Prop) (x0:σ) (h0:I 0 x0) (ip jp:List Nat)
  (own:HL) {Te Tx:HL -> Prop} (hit:P9 P gf lb own (ap (dF ip s) (eA jp s).tail++F) encs xs Te Tx)
  (iD:∀ (l i:Nat) (x:α) (s1:σ) (Y:HL) (w1:World),xs[i]?=some x -> I i s1 ->
   (∀ {s':Cfg} {R':HL} (t:τ) (Ul Uk:List Nat),Ia i x t -> (hm:CG s'=some (MV N [] (Y++(ap (dF ip s) (eA jp s).tail++F)) w1 W (Ia i x)):=by kernel_rfl) -> (h:uO (W t) Ul Uk s'=nR (W t):=by kernel_rfl) -> (hp:bK Ul Uk s'=true:=by kernel_rfl) -> RN (some l) P N [] (Y++(ap (dF ip s) (eA jp s).tail++F)) w1 R' s' (λ _ _ _=>False)) ->
   RN (some l) P N [] (Y++(ap (dF ip s) (eA jp s).tail++F)) w1 (dF ip s++R) (Ml (MV N [] (Y++(ap (dF ip s) (eA jp s).tail++F)) w1 W (Ia i x)) (encs x).toList (S s1).1 (S s1).2 s) (λ _ _ _=>False))
  (D_:∀ (l i:Nat) (x:α) (t:τ) (Y:HL) (w1:World),xs[i]?=some x -> Ia i x t -> RN (some l) P N [] (Y++(ap (dF ip s) (eA jp s).tail++F)) w1 (dF ip s++R) (Mm (W t) s) (RQ (Y++(ap (dF ip s) (eA jp s).tail++F)) w1 (λ s=>ap (S s).1 (S s).2) (I (i+1)) Ix))
  (DO:∀ (d:Nat) (s1:σ) (T1:HL),I xs.length s1 -> Te T1 -> RN none P N (coll d::D) F w0 R (KR (.ex .normal) d ip jp (S s1).1 (S s1).2 T1 s) Q)
  (BY:∀ (d:Nat) (c:Code) (s1:σ) (T1:HL),Ix c s1 -> Tx T1 -> RN none P N (coll d::D) F w0 R (KR (.code c) d ip jp (S s1).1 (S s1).2 T1 s) Q)
  (R0:CU N s=true:=by kernel_rfl) (hp:bK ip jp s=true:=by kernel_rfl) (hH:picks ip jp s=((S x0).1,(S x0).2):=by kernel_rfl) (ho:(eA jp s).head?=some own:=by kernel_rfl) (hG:(im s).map (·.1)=some (.func (.func gf) #[] lb):=by kernel_rfl) (G_:∀x:α,(im s).map (·.2)=some (encs x).size:=by intro x;kernel_rfl):RN none P N D F w0 R s Q:=by
 refine⟨λ hR=>?_⟩
 obtain⟨c,k,L,A,Ts⟩:=s
 unfold bK at hp
 unfold picks at hH
 rw[Bool.and_eq_true] at hp
 simp only[Prod.mk.injEq] at hH
 cases c with
 | ops _ _=>simp[im] at hG
 | ex _=>simp[im] at hG
 | drw _ _=>simp[im] at hG
 | code c =>
 cases c with
 | rangeFunc g ps assign body =>
  have hi:kR L g=true:=by
   cases h:kR L g with
   | true=>rfl
   | false=>simp[im,h] at hG
  simp only[im,hi,Option.map_some,Option.some.injEq] at hG G_
  simp only[CU] at R0
  have UY:∀ (Y:HL),∀y∈dF ip ⟨.code (.rangeFunc g ps assign body),k,L,A,Ts⟩++R,y∈Y++(ap (dF ip ⟨.code (.rangeFunc g ps assign body),k,L,A,Ts⟩) (eA jp ⟨.code (.rangeFunc g ps assign body),k,L,A,Ts⟩).tail++F):=by
   intro Y y hy
   rcases List.mem_append.1 hy with hy|hy
   ·exact List.mem_append_right _ (List.mem_append_left _ (List.mem_append_left _ hy))
   ·exact List.mem_append_right _ (List.mem_append_right _ (hR y hy))
  have By:(oth jp Ts.length).filterMap (Ts[·]?)=own::((oth jp Ts.length).filterMap (Ts[·]?)).tail:=by
   have h1:((oth jp Ts.length).filterMap (Ts[·]?)).head?=some own:=ho
   generalize (oth jp Ts.length).filterMap (Ts[·]?)=l at h1 ⊢
   cases l with
   | nil=>cases h1
   | cons x l=>simp only[List.head?_cons,Option.some.injEq] at h1;rw[h1];rfl
  exact Ag (assign:=assign) (body:=body) hi hG eg (λ s=>(S s).1) (λ s=>(S s).2) I Ix (λ t=>(W t).L) (λ t=>ap (W t).A (W t).Ts) Ia (λ x=>(G_ x).symm) R0 x0 h0 ip (oth ip A.length) jp (oth jp Ts.length) hp.1 hp.2 _ _ rfl own By hH.1 hH.2 hit
   (λ l i x s1 Y w1 hx hi=>(iD l i x s1 Y w1 hx hi (λ t Ul Uk ht hm h hp=>qn t Ul Uk ht hm h hp)).h (UY Y))
   (λ l i x t Y w1 hx ht=>(D_ l i x t Y w1 hx ht).h (UY Y))
   (λ d s1 T1 hs hT=>(DO d s1 T1 hs hT).h hR) (λ d c s1 T1 hs hT=>(BY d c s1 T1 hs hT).h hR)
 | _=>simp[im] at hG
def mkC(i:Nat)(s:Cfg):Cfg:=match s with
 | ⟨c,k,L,A,Ts⟩=>⟨c,k,L,(oth [i] A.length).filterMap (A[·]?),Ts⟩
theorem LV.mark{fn:Func}{R':Value -> HL -> Prop}{d:Nat}(i:Nat)(hk:LV P N D F w0 R fn R' (mkC i s))(h:((s.A[i]?),([i]++oth [i] s.A.length).isPerm (List.range s.A.length))=(some (bu d),true):=by kernel_rfl):LV P N (coll d::D) F w0 R fn R' s:=by
 simp only[Prod.mk.injEq] at h
 refine⟨λ hR a w hF aT hB=>?_⟩
 obtain⟨c,k,L,A,Ts⟩:=s
 simp only at h hF aT
 have hp:=fH A [i] (oth [i] A.length) h.2
 simp only[List.filterMap_cons,h.1,List.filterMap_nil,List.cons_append,List.nil_append] at hp
 have h1:Rel ((d,Blk.obj (.deferred (some [])))::(ap ((oth [i] A.length).filterMap (A[·]?)) Ts++F)) w:=by
  refine aT.perm ?_
  have h2:(bu d::ap ((oth [i] A.length).filterMap (A[·]?)) Ts).Perm (ap A Ts):=List.Perm.append_right Ts.flatten hp
  exact h2.append_right F
 have hd:w.heap[d]?=some (.deferred (some [])):=h1.holds (bu d) (by simp)
 have h2:=(h1.putObj (F:=[]) (.obj (.deferred none)))
 rw[hF.defs]
 refine⟨by simp,.inl ⟨d,_,rfl,run_takeDeferred hd,?_⟩⟩
 exact hk.h hR { a with defers:=D } _ ⟨hF.size,rfl,hF.has⟩ (Rel.drop (X:=[(d,Blk.obj (.deferred none))]) h2) (hB.trans (cz _ _))
end
theorem HJ(c0 c1 c2 c3 c4:Value)(F:HL):SpD Tryz.prog 102 #[c0,c1,c2,c3,c4] [] F (λ _ H'=>H'=[]):=by
 intro w hR
 refine callsDIn_of_wpSIn (F:=Wr none) (n:=0) Tryz.func102 rfl trivial λ c₀ cs hu=>?_
 have hrc:recoverD (c₀::cs)=none:=by simp[recoverD,hu]
 refine wpSIn_seq (wpSIn_region ?_)
 show wpOpsSIn _ _ _ _ _ [0,1] _ _ _
 simp only[wpOpsSIn,List.getElem?_toArray,List.getElem?_cons_zero,List.getElem?_cons_succ]
 simp[wpOpsSIn,go_sem,hrc,Tryz.ntmps102,Exit.thenS]
 refine wpSIn_cond (t:=false) (by simp[Act.eval,Array.replicate]) ?_
 refine wpSIn_of_wpIn rfl ?_
 refine wpIn_skip ?_
 simp[bodyPostS,results,Tryz.results102,hu]
 exact⟨.returning,by cases c₀;simp at hu;subst hu;rfl,hu ▸ rfl,hR,Below.refl _ _⟩
abbrev gC(S:Setup)(j:Nat × Int)(n:Nat)(xs:List Inp):Gm:=⟨S,none,cG j.1,0,bB j.1 0,bB j.1 1,bB j.1 2,j.2,0,0,n,0,0,xs,fO j.1⟩
def AtOk(F:HL)(bp:Nat)(t:Int)(j:Nat × Int):Prop:=∀F',(∀x∈F,x∈F') -> Sp Tryz.prog 124 #[vP bp 0,vI t] (ap [] []) F' (λ u H'=>∃x:Option Addr × Nat × HL,H'=ap [] [x.2.2] /\ (u=.tuple #[vI j.2,.agg #[.slice x.1 (cG j.1) x.2.1,vI (bB j.1 0),vI (bB j.1 1),vI (bB j.1 2)]] /\ ClS iq 155 (fO j.1) x.1 x.2.1 x.2.2))
theorem AtOk.mono{F F':HL}{bp:Nat}{t:Int}{j:Nat × Int}(h:AtOk F bp t j)(hs:∀x∈F,x∈F'):AtOk F' bp t j:=λ F2 h2=>h F2 λ x hx=>h2 x (hs x hx)
abbrev Pm(x:Eff × Bool):Array Value:=#[.agg #[vI x.1.t,vI x.1.i,vI x.1.k,vI x.1.v,.bool x.2]]
theorem ClS.code{j:Nat}(hj:j<5){A:Option Addr}{c:Nat}{Hl F:HL}(h:ClS iq 155 (fO j) A c Hl)(hF:∀x∈Hl,x∈F):CodeIn F (fO j) A (cG j):=by
 have hl:=lL hj
 have hb:=qD hj
 obtain⟨A0,h⟩:=h
 rcases h with ⟨h1,rfl,rfl,rfl⟩|⟨b,rfl,rfl,h3⟩
 ·rw[h1] at hl
  rw[<- hl]
  exact .nil _
 ·exact .mk b c _ (hF _ (List.mem_singleton.2 rfl)) (by rw[<- hl];exact h3) (by omega)
theorem vH{S:Setup}{A:Option Addr}{j:Nat × Int}{c ib io n ic N:Nat}{full xs:List Inp}(hx:∀k,k<n -> full.getD (io+k) dI=xs.getD k dI):GEq ⟨S,A,cG j.1,c,bB j.1 0,bB j.1 1,bB j.1 2,j.2,ib,io,n,ic,N,full,fO j.1⟩ (gC S j n xs) :=
 ⟨rfl,λ k hk=>(hx k hk).trans (by rw[Nat.zero_add])⟩
theorem oC{g g0:Gm}(e:GEq g g0)(mb:Nat)(M:MemS)(k:Nat)(T F:HL)(hM:MemH mb M (k+20) T)(hg:GmIn F g)(h0:FJ M)(Zj:Int)(X8:g.version=Zj):Sp Tryz.prog 125 #[.iface 96 (vP mb 0),.agg #[vI g.S.players,vS g.S.bb (g.S.bo*9) g.S.nb g.S.bc,vI g.S.box.x0,vI g.S.box.y0,vI g.S.box.x1,vI g.S.box.y1,.slice g.S.rA g.S.rn g.S.rc,.slice g.S.dA g.S.dn g.S.dc,vI g.S.fog,vI g.S.g.x,vI g.S.g.y,vI g.S.push,vI g.S.drag,vI g.S.rest,vI g.S.rounds,vI g.S.fuel],.agg #[.slice g.cA g.cn g.cc,vI g.e0,vI g.e1,vI g.e2],vI Zj,vS g.ib (g.io*3) g.ni g.ic] (ap [] [T]) F (λ u H'=>∃x,H'=ap [] [x] /\ (MemH mb (kX g0 M) k x /\ u=.tuple #[.bool (jg g0 M),.agg #[vI ((eT g0 M).e.t),vI ((eT g0 M).e.i),vI ((eT g0 M).e.k),vI ((eT g0 M).e.v)],.bool ((eT g0 M).em)])):=by
 have h:=C5 g mb M k T F hM hg h0 Zj X8
 rwa [kX,FV e,zu e] at h
theorem KS(S:Setup)(bp gb mb q1 q2 ib io N ni ic m k:Nat)(j:Nat × Int)(full xs:List Inp)(M:MemS)(F:HL)(hj:j.1<5)(hA:AtOk F bp (M.get 0) j)(hg:(gb,.lit (d8 S bp mb) 140 (0,0))∈F)(h1:(q1,.lit [vP gb 0] 83 (0,0))∈F)(h2:(q2,.lit [vS ib (io*3) ni ic] 54 (0,0))∈F)(hS:SetIn F S)(hE:dh F)(hI:(ib,.rows 3 N (gc full) 119 (0,0))∈F)(hir:io+ni <= N /\ ni <= 1000000)(hx:∀k,k<ni -> full.getD (io+k) dI=xs.getD k dI)(T:HL)(hM:MemH mb M (k+20*m+20) T)(h0:0 <= M.get 0)(Sv:dQ (gC S j ni xs) (m+1) M)(lp:Nat)(X:HL)(J:Nat -> HL -> Prop)(Jx:HL -> Prop)(T0:HL)(hY:∀i x H Y,(iY (gC S j ni xs) (m+1) M)[i]?=some x -> J i H -> YL Tryz.prog lp (Pm x) H (Y++(X++F)) (λ b H'=>(b=true /\ J (i+1) H') \/ (b=false /\ Jx H')))(Sx:J 0 T0):Sp Tryz.prog 123 #[.func (.yield lp) #[] #[],vP q1 0,vP q2 0] (ap [] [T0,T]) (X++F) (λ _ H'=>∃x:HL × HL,H'=ap [] [x.1,x.2] /\ ((J (iY (gC S j ni xs) (m+1) M).length x.1 /\ MemH mb (gn (gC S j ni xs) (m+1) M) k x.2) \/ Jx x.1)):=by
 have Tw:=List.mem_append_right X hg
 have Xc:=List.mem_append_right X h1
 have Rj:=List.mem_append_right X h2
 have hS_:SetIn (X++F) S:=hS.up
 have XM:dh (X++F):=List.mem_append_right X hE
 have TA:=List.mem_append_right X hI
 have hA_:AtOk (X++F) bp (M.get 0) j:=hA.mono λ x hx=>List.mem_append_right X hx
 refine Sp.run Tryz.func123 rfl (mc Tw (mc Xc (mc Rj mn))) (A:=[]) (Ts:=[T0,T]) rfl λ w0=>?_
 refine ae 1 [] λ _=>RN.draw [12] []<|ag [] [0,4,1,2,3] [.ro 1,.ro 1,.ro 0]<|RD.cp [] 5 (λ X_=>(xp S bp gb mb M (k+20*m+20) T _ (oM Tw) hM (aS 1)))<|fQ 6 10 ?_ ?_
 ·refine RDO.ct [] (Hp:=[]) (Tp:=[]) [] [] (hA_ _ (λ x hx=>aq hx)) ?_
  rintro _ ⟨A1,c2,T3⟩ ⟨rfl,YJ⟩
  dsimp only at YJ
  refine ag [] [7,8,9] []<|RD.one 10 (RDO.ev [] [] λ n5=>?_)
  refine ag [] [11] []<|RD.one 12 (RDO.ev [] [.own 0,.own 0,.own 0,.own 0] λ _=>?_)
  refine RD.fin<|ae 2 [] λ _=>RN.loop (σ:=Nat × Nat × MemS × HL × HL) (λ ⟨r,i_,M_,T_,J_⟩=>⟨[(0,.func (.yield lp) #[] #[]),(1,vP q1 0),(2,vP q2 0),(4,vI j.2),(5,vP (n5+0) 0)],[((n5+0),.lit [.slice A1 (cG j.1) c2,vI (bB j.1 0),vI (bB j.1 1),vI (bB j.1 2)] 109 (0,0))],[T_,J_,T3],i_+(r+1)=m+1 /\ dQ (gC S j ni xs) (r+1) M_ /\ gn (gC S j ni xs) (r+1) M_=gn (gC S j ni xs) (m+1) M /\ MemH mb M_ (k+20*r+20) T_ /\ (iY (gC S j ni xs) (m+1) M).drop i_=iY (gC S j ni xs) (r+1) M_ /\ J i_ J_,r⟩) (m,0,M,T,T0) [0] [2,1,0] (⟨by omega,Sv,rfl,hM,rfl,Sx⟩) ?_
  rintro⟨r,i_,M_,T_,J_⟩ ⟨hd_,AT,Rl,Tk,SK,Q8⟩ V9
  refine ae 2 [] λ _=>RN.draw [12,19] []<|ag [] [0,5,9,10,11,1,6,2,7,3,8,4] [.ro 1,.ro 1,.own 0,.own 0,.own 0,.own 0,.ro 2,.ro 0,.ro 0,.ro 0,.ro 0,.ro 0,.ro 0,.ro 0,.ro 0,.ro 0,.ro 0,.ro 0,.ro 0,.ro 0,.ro 0,.ro 0,.ro 0,.ro 0]<|fQ 12 17 ?_ ?_
  ·refine RDO.ct [] [] [0] (oC (g:=(⟨S,A1,cG j.1,c2,bB j.1 0,bB j.1 1,bB j.1 2,j.2,ib,io,ni,ic,N,full,fO j.1⟩:Gm)) (vH hx) mb M_ (k+20*r) T_ _ Tk ⟨hS_.up,aq TA,hir,aq XM,YJ.code hj (ar 1)⟩ AT.1 j.2 rfl) ?_
   rintro _ T8 ⟨UJ,rfl⟩
   refine ag [] [13,14,15,16] []<|RD.one 17 (RDO.ev [] [] λ Sg=>?_)
   refine ag [] [18] []<|RD.one 19 (RDO.ev [] [.own 0,.own 0,.own 0,.own 0] λ _=>?_)
   refine ag [] [20] []<|RD.fin<|ae 7 [.own 0,.own 0,.own 0,.own 0] λ _=>RN.yield 1 (hY i_ ((eT (gC S j ni xs) M_).e,(eT (gC S j ni xs) M_).em) _ _ (gK SK).1 Q8) ?_
   rintro b_ Of (⟨rfl,Tl⟩|⟨rfl,Tl⟩)
   ·refine ae 6 [] λ _=>jo (jg (gC S j ni xs) M_) 44 (λ Sq=>?_) λ Sq=>?_
    ·refine ae 1 [] λ _=>RN.ret [] [] [0,1] (v:=.tuple #[]) (H':=(ap [] [Of,T8])) ?_
     have er:r=0:=by
      rcases AT.2 with ⟨e,_⟩|⟨e,_⟩
      ·exact e
      ·have hh:jg (gC S j ni xs) M_=true:=by assumption
       rw[e] at hh;cases hh
     subst er
     have ed:i_+1=(iY (gC S j ni xs) (m+1) M).length:=by rw[iZ];omega
     refine⟨(Of,T8),rfl,.inl ⟨?_,?_⟩⟩
     ·rw[<- ed];exact Tl
     ·rw[<- Rl];exact UJ.weak (by omega)
    ·refine ae 3 [] λ _=>?_
     have SH:=AT.2
     rcases SH with ⟨_,e_⟩|⟨_,SH⟩
     ·exact absurd e_ (by assumption)
     rcases r with _|r
     ·exact SH.elim
     refine V9 (r,i_+1,(kX (gC S j ni xs) M_),T8,Of) [1] [1,0,2] ?_
     try dsimp only
     exact⟨⟨by omega,SH,Rl,UJ.weak (by omega),(gK SK).2,Tl⟩,by omega⟩
   ·refine ae 7 [] λ _=>RN.ret [] [] [0,1] (v:=.tuple #[]) (H':=(ap [] [Of,T8])) ?_
    exact⟨(Of,T8),rfl,.inr Tl⟩
  ·refine RDO.ev [] [] λ ZM=>RD.one 12 (RDO.ct [] [] [0] (oC (g:=(⟨S,A1,cG j.1,c2,bB j.1 0,bB j.1 1,bB j.1 2,j.2,ib,io,ni,ic,N,full,fO j.1⟩:Gm)) (vH hx) mb M_ (k+20*r) T_ _ Tk ⟨hS_.up,aq TA,hir,aq XM,YJ.code hj (ar 1)⟩ AT.1 j.2 rfl) ?_)
   rintro _ Sz ⟨Sn,rfl⟩
   refine ag [] [13,14,15,16,18] []<|RD.one 19 (RDO.ev [] [.own 0,.own 0,.own 0,.own 0] λ _=>?_)
   refine ag [] [20] []<|RD.fin<|ae 7 [.own 0,.own 0,.own 0,.own 0] λ _=>RN.yield 1 (hY i_ ((eT (gC S j ni xs) M_).e,(eT (gC S j ni xs) M_).em) _ _ (gK SK).1 Q8) ?_
   rintro b_ Sy (⟨rfl,W6⟩|⟨rfl,W6⟩)
   ·refine ae 6 [] λ _=>jo (jg (gC S j ni xs) M_) 44 (λ UM=>?_) λ UM=>?_
    ·refine ae 1 [] λ _=>RN.ret [] [] [0,1] (v:=.tuple #[]) (H':=(ap [] [Sy,Sz])) ?_
     have er:r=0:=by
      rcases AT.2 with ⟨e,_⟩|⟨e,_⟩
      ·exact e
      ·have hh:jg (gC S j ni xs) M_=true:=by assumption
       rw[e] at hh;cases hh
     subst er
     have ed:i_+1=(iY (gC S j ni xs) (m+1) M).length:=by rw[iZ];omega
     refine⟨(Sy,Sz),rfl,.inl ⟨?_,?_⟩⟩
     ·rw[<- ed];exact W6
     ·rw[<- Rl];exact Sn.weak (by omega)
    ·refine ae 3 [] λ _=>?_
     have SH:=AT.2
     rcases SH with ⟨_,e_⟩|⟨_,SH⟩
     ·exact absurd e_ (by assumption)
     rcases r with _|r
     ·exact SH.elim
     refine V9 (r,i_+1,(kX (gC S j ni xs) M_),Sz,Sy) [1] [1,0,2] ?_
     try dsimp only
     exact⟨⟨by omega,SH,Rl,Sn.weak (by omega),(gK SK).2,W6⟩,by omega⟩
   ·refine ae 7 [] λ _=>RN.ret [] [] [0,1] (v:=.tuple #[]) (H':=(ap [] [Sy,Sz])) ?_
    exact⟨(Sy,Sz),rfl,.inr W6⟩
 ·refine RDO.ev [] [] λ XZ=>RD.one 6 (RDO.ct [] (Hp:=[]) (Tp:=[]) [] [] (hA_ _ (λ x hx=>aq hx)) ?_)
  rintro _ ⟨A21,c22,T23⟩ ⟨rfl,YK⟩
  dsimp only at YK
  refine ag [] [7,8,9,11] []<|RD.one 12 (RDO.ev [] [.own 0,.own 0,.own 0,.own 0] λ _=>?_)
  refine RD.fin<|ae 2 [] λ _=>RN.loop (σ:=Nat × Nat × MemS × HL × HL) (λ ⟨r,i_,M_,T_,J_⟩=>⟨[(0,.func (.yield lp) #[] #[]),(1,vP q1 0),(2,vP q2 0),(4,vI j.2),(5,vP (XZ+0) 0)],[((XZ+0),.lit [.slice A21 (cG j.1) c22,vI (bB j.1 0),vI (bB j.1 1),vI (bB j.1 2)] 109 (0,0))],[T_,J_,T23],i_+(r+1)=m+1 /\ dQ (gC S j ni xs) (r+1) M_ /\ gn (gC S j ni xs) (r+1) M_=gn (gC S j ni xs) (m+1) M /\ MemH mb M_ (k+20*r+20) T_ /\ (iY (gC S j ni xs) (m+1) M).drop i_=iY (gC S j ni xs) (r+1) M_ /\ J i_ J_,r⟩) (m,0,M,T,T0) [0] [2,1,0] (⟨by omega,Sv,rfl,hM,rfl,Sx⟩) ?_
  rintro⟨r,i_,M_,T_,J_⟩ ⟨hd_,AT,Rl,Tk,SK,Q8⟩ Ww
  refine ae 2 [] λ _=>RN.draw [12,19] []<|ag [] [0,5,9,10,11,1,6,2,7,3,8,4] [.ro 1,.ro 1,.own 0,.own 0,.own 0,.own 0,.ro 2,.ro 0,.ro 0,.ro 0,.ro 0,.ro 0,.ro 0,.ro 0,.ro 0,.ro 0,.ro 0,.ro 0,.ro 0,.ro 0,.ro 0,.ro 0,.ro 0,.ro 0]<|fQ 12 17 ?_ ?_
  ·refine RDO.ct [] [] [0] (oC (g:=(⟨S,A21,cG j.1,c22,bB j.1 0,bB j.1 1,bB j.1 2,j.2,ib,io,ni,ic,N,full,fO j.1⟩:Gm)) (vH hx) mb M_ (k+20*r) T_ _ Tk ⟨hS_.up,aq TA,hir,aq XM,YK.code hj (ar 1)⟩ AT.1 j.2 rfl) ?_
   rintro _ Ux ⟨Sm,rfl⟩
   refine ag [] [13,14,15,16] []<|RD.one 17 (RDO.ev [] [] λ n29=>?_)
   refine ag [] [18] []<|RD.one 19 (RDO.ev [] [.own 0,.own 0,.own 0,.own 0] λ _=>?_)
   refine ag [] [20] []<|RD.fin<|ae 7 [.own 0,.own 0,.own 0,.own 0] λ _=>RN.yield 1 (hY i_ ((eT (gC S j ni xs) M_).e,(eT (gC S j ni xs) M_).em) _ _ (gK SK).1 Q8) ?_
   rintro b_ Zf (⟨rfl,W5⟩|⟨rfl,W5⟩)
   ·refine ae 6 [] λ _=>jo (jg (gC S j ni xs) M_) 44 (λ V4=>?_) λ V4=>?_
    ·refine ae 1 [] λ _=>RN.ret [] [] [0,1] (v:=.tuple #[]) (H':=(ap [] [Zf,Ux])) ?_
     have er:r=0:=by
      rcases AT.2 with ⟨e,_⟩|⟨e,_⟩
      ·exact e
      ·have hh:jg (gC S j ni xs) M_=true:=by assumption
       rw[e] at hh;cases hh
     subst er
     have ed:i_+1=(iY (gC S j ni xs) (m+1) M).length:=by rw[iZ];omega
     refine⟨(Zf,Ux),rfl,.inl ⟨?_,?_⟩⟩
     ·rw[<- ed];exact W5
     ·rw[<- Rl];exact Sm.weak (by omega)
    ·refine ae 3 [] λ _=>?_
     have SH:=AT.2
     rcases SH with ⟨_,e_⟩|⟨_,SH⟩
     ·exact absurd e_ (by assumption)
     rcases r with _|r
     ·exact SH.elim
     refine Ww (r,i_+1,(kX (gC S j ni xs) M_),Ux,Zf) [1] [1,0,2] ?_
     try dsimp only
     exact⟨⟨by omega,SH,Rl,Sm.weak (by omega),(gK SK).2,W5⟩,by omega⟩
   ·refine ae 7 [] λ _=>RN.ret [] [] [0,1] (v:=.tuple #[]) (H':=(ap [] [Zf,Ux])) ?_
    exact⟨(Zf,Ux),rfl,.inr W5⟩
  ·refine RDO.ev [] [] λ n33=>RD.one 12 (RDO.ct [] [] [0] (oC (g:=(⟨S,A21,cG j.1,c22,bB j.1 0,bB j.1 1,bB j.1 2,j.2,ib,io,ni,ic,N,full,fO j.1⟩:Gm)) (vH hx) mb M_ (k+20*r) T_ _ Tk ⟨hS_.up,aq TA,hir,aq XM,YK.code hj (ar 1)⟩ AT.1 j.2 rfl) ?_)
   rintro _ XS ⟨WY,rfl⟩
   refine ag [] [13,14,15,16,18] []<|RD.one 19 (RDO.ev [] [.own 0,.own 0,.own 0,.own 0] λ _=>?_)
   refine ag [] [20] []<|RD.fin<|ae 7 [.own 0,.own 0,.own 0,.own 0] λ _=>RN.yield 1 (hY i_ ((eT (gC S j ni xs) M_).e,(eT (gC S j ni xs) M_).em) _ _ (gK SK).1 Q8) ?_
   rintro b_ Ze (⟨rfl,W4⟩|⟨rfl,W4⟩)
   ·refine ae 6 [] λ _=>jo (jg (gC S j ni xs) M_) 44 (λ Y_=>?_) λ Y_=>?_
    ·refine ae 1 [] λ _=>RN.ret [] [] [0,1] (v:=.tuple #[]) (H':=(ap [] [Ze,XS])) ?_
     have er:r=0:=by
      rcases AT.2 with ⟨e,_⟩|⟨e,_⟩
      ·exact e
      ·have hh:jg (gC S j ni xs) M_=true:=by assumption
       rw[e] at hh;cases hh
     subst er
     have ed:i_+1=(iY (gC S j ni xs) (m+1) M).length:=by rw[iZ];omega
     refine⟨(Ze,XS),rfl,.inl ⟨?_,?_⟩⟩
     ·rw[<- ed];exact W4
     ·rw[<- Rl];exact WY.weak (by omega)
    ·refine ae 3 [] λ _=>?_
     have SH:=AT.2
     rcases SH with ⟨_,e_⟩|⟨_,SH⟩
     ·exact absurd e_ (by assumption)
     rcases r with _|r
     ·exact SH.elim
     refine Ww (r,i_+1,(kX (gC S j ni xs) M_),XS,Ze) [1] [1,0,2] ?_
     try dsimp only
     exact⟨⟨by omega,SH,Rl,WY.weak (by omega),(gK SK).2,W4⟩,by omega⟩
   ·refine ae 7 [] λ _=>RN.ret [] [] [0,1] (v:=.tuple #[]) (H':=(ap [] [Ze,XS])) ?_
    exact⟨(Ze,XS),rfl,.inr W4⟩
theorem Ns(S:Setup)(bp gb mb q1 q2 ib io N ni ic m k:Nat)(j:Nat × Int)(full xs:List Inp)(M:MemS)(F:HL)(hj:j.1<5)(hA:AtOk F bp (M.get 0) j)(hg:(gb,.lit (d8 S bp mb) 140 (0,0))∈F)(h1:(q1,.lit [vP gb 0] 83 (0,0))∈F)(h2:(q2,.lit [vS ib (io*3) ni ic] 54 (0,0))∈F)(hS:SetIn F S)(hE:dh F)(hI:(ib,.rows 3 N (gc full) 119 (0,0))∈F)(hir:io+ni <= N /\ ni <= 1000000)(hx:∀k,k<ni -> full.getD (io+k) dI=xs.getD k dI)(T:HL)(hM:MemH mb M (k+20*m+20) T)(h0:0 <= M.get 0)(Sv:dQ (gC S j ni xs) (m+1) M):P9 Tryz.prog 123 #[vP q1 0,vP q2 0] T F Pm (iY (gC S j ni xs) (m+1) M) (λ T1=>MemH mb (gn (gC S j ni xs) (m+1) M) k T1) (λ _=>True):=by
 intro X l J Jx H0 hY h0'
 have e:∀A B:HL,ap [] [A,B]=A++B:=λ A B=>by simp[ap]
 have key:=KS S bp gb mb q1 q2 ib io N ni ic m k j full xs M F hj hA hg h1 h2 hS hE hI hir hx T hM h0 Sv l X J Jx H0 hY h0'
 rw[e] at key
 refine key.mono λ u H' h=>?_
 obtain⟨x,rfl,h⟩:=h
 refine⟨x.1,x.2,e _ _,?_⟩
 rcases h with ⟨a,b⟩|a
 ·exact .inl ⟨a,b⟩
 ·exact .inr ⟨a,trivial⟩
theorem HK(e:Int)(S:Setup)(bp gb mb:Nat)(M:MemS)(k:Nat)(A:Option Addr)(n cap:Nat)(xs:List Inp)(T F:HL)(hg:(gb,.lit (d8 S bp mb) 140 (0,0))∈F)(hM:MemH mb M k T)(hT:∀x∈T,x∈F)(hl:RowL eE 119 F A n xs)(hn:n <= 1000000)(he:fF S.players n xs (M.get 0)=e):Sp Tryz.prog 101 #[vP gb 0,.slice A n cap] [] F (λ u H'=>u=vI e /\ H'=[]):=he ▸ zK S bp gb mb M k A n cap xs T F hg hM hT hl hn
theorem HM(c0 c1 c2 c3 c4:Value)(F:HL):SpD Tryz.prog 102 #[c0,c1,c2,c3,c4] (ap [] []) F (λ _ H'=>∃_:Unit,H'=ap [] [] /\ True):=by
 exact(HJ c0 c1 c2 c3 c4 F).mono λ u H' h=>⟨(),h,trivial⟩
theorem HN(S:Setup)(rs:List Bx)(ds:List Dr)(bp gb mb ib io N ni ic m k:Nat)(j:Nat × Int)(full xs:List Inp)(M:MemS)(T U F:HL)(hj:j.1<5)(hA:AtOk F bp (M.get 0) j)(hU:ry S rs ds U)(hE:dh F)(hI:(ib,.rows 3 N (gc full) 119 (0,0))∈F)(hir:io+ni <= N)(Tu:ni <= 1000000)(hmb:m <= 1000000)(hlen:xs.length=ni)(hx:∀k,k<ni -> full.getD (io+k) dI=xs.getD k dI)(hM:MemH mb M (k+20*m+20) T)(h0:0 <= M.get 0)(Sv:dQ (gC S j ni xs) (m+1) M)(hw:fF S.players ni xs (M.get 0)=0):Sp Tryz.prog 70 #[vP gb 0,vS ib (io*3) ni ic] (ap [(gb,.lit (d8 S bp mb) 140 (0,0))] [T,U]) F (λ u H'=>∃x:HL × Option Addr × Nat × HL,H'=ap [(gb,.lit (d8 S bp mb) 140 (0,0))] [x.1,U,x.2.2.2] /\ (MemH mb (gn (gC S j ni xs) (m+1) M) k x.1 /\ SlIs wG 197 (fK (gC S j ni xs) (m+1) M) x.2.1 x.2.2.1 x.2.2.2 /\ u=.tuple #[.slice x.2.1 (fK (gC S j ni xs) (m+1) M).length x.2.2.1,vI ((m+1:Nat):Int),vI 0])):=by
 have hl:RowL eE 119 F (some ⟨ib,io*3,none⟩) ni xs:=.rows ib io N full (0,0) ni xs hI hir hlen hx
 have Wm:=hM
 refine Sp.runM Tryz.func70 rfl mn (A:=[(gb,.lit (d8 S bp mb) 140 (0,0))]) (Ts:=[T,U]) rfl λ w0=>?_
 refine ae 13 [.own 3] λ n1=>RN.cp (HK 0 S bp gb mb M (k+20*m+20) (some ⟨ib,io*3,none⟩) ni ic xs T _ (az 4) hM (ar 0) hl.up Tu hw)<|ae 18 [.own 3,.own 4] λ _=>RN.cp (xo hM (ar 0))<|ae 7 [.own 0] λ n2=>Pi (g:=102) (args:=#[]) (cap:=#[vP (n1+0) 0,vP (n2+0) 0,vP (n1+1) 0,vP (n1+2) 0,vP (n1+3) 0])<|ae 7 [.own 4] λ _=>RN.ct (Hp:=[]) (Tp:=[]) [] [] (DC gb ib io ni ic _) ?_
 rintro _ n3 rfl
 refine ae 3 [] λ _=>RN.nt<|kV [1,0,2]<|D3 (σ:=Nat × List Eff × Option Addr × Nat × HL) (τ:=(Nat × List Eff × Option Addr × Nat × HL) × Nat × (Eff × Bool)) (encs:=λ (x_:Eff × Bool)=>#[.agg #[vI x_.1.t,vI x_.1.i,vI x_.1.k,vI x_.1.v,.bool x_.2]]) (xs:=(iY (gC S j ni xs) (m+1) M)) (enters_of Tryz.func123 (by kernel_rfl) rfl) (λ ⟨c_,Sa,B_,b_,E_⟩=>([((n1+1),.lit [.slice B_ Sa.length b_] 145 (0,0)),((n1+2),.lit [vI (c_:Int)] 3 (0,0))],[E_])) (λ i_ ⟨c_,Sa,B_,b_,E_⟩=>c_=i_ /\ Sa=mA ((iY (gC S j ni xs) (m+1) M).take i_) /\ SlIs wG 197 Sa B_ b_ E_) (λ c_ ⟨c_,Sa,B_,b_,E_⟩=>False) (λ ⟨⟨c_,Sa,B_,b_,E_⟩,nn_,y_⟩=>⟨[(4,vP (n1+1) 0),(5,vP (n1+2) 0),(6,vP (n1+3) 0),(9,vP (nn_+0) 0)],[((nn_+0),.lit [vI y_.1.t,vI y_.1.i,vI y_.1.k,vI y_.1.v,.bool y_.2] 199 (0,0)),((n1+1),.lit [.slice B_ Sa.length b_] 145 (0,0)),((n1+2),.lit [vI (c_:Int)] 3 (0,0))],[E_],True,0⟩) (λ i_ x_ ⟨⟨c_,Sa,B_,b_,E_⟩,nn_,y_⟩=>(c_=i_ /\ Sa=mA ((iY (gC S j ni xs) (m+1) M).take i_) /\ SlIs wG 197 Sa B_ b_ E_) /\ y_=x_) (0,[],none,0,[]) (⟨rfl,rfl,SlIs.nil _ _⟩) [5,4] [1] T (Ns S bp gb mb (n3+0) (n3+1) ib io N ni ic m k j full xs M _ hj (hA.mono λ x hx=>aq hx) (az 5) (az 1) (az 0) (hU _ (ar 0)).1 (aq hE) (aq hI) ⟨hir,Tu⟩ hx T Wm h0 Sv) ?_ ?_ ?_ ?_
 ·rintro l_ i_ x_ ⟨c_,Sa,B_,b_,E_⟩ Y4 w5 hx6 ⟨Ut,RU,IS⟩ V9
  refine ae 4 (ow 0 5) λ n8=>?_
  refine V9 ((c_,Sa,B_,b_,E_),n8,x_) [0,1,2] [0] ?_
  try dsimp only
  exact⟨⟨Ut,RU,IS⟩,rfl⟩
 ·rintro l_ i_ x_ ⟨⟨c_,Sa,B_,b_,E_⟩,nn_,y_⟩ Y9 w10 X7 ⟨⟨Ut,RU,IS⟩,Xd⟩
  subst Xd
  have hbd_:i_<m+1:=by have:=(List.getElem?_eq_some_iff.1 X7).1;rwa [iZ] at this
  have hel_:Sa.length <= i_:=by rw[RU];have:=wV ((iY (gC S j ni xs) (m+1) M).take i_);rw[List.length_take] at this;omega
  refine ai 14 [.own 2,.nw,.own 2,.own 0] [aU ((c_:Int)+1)] λ _=>jo (y_.2) 29 (λ RE=>?_) λ RE=>?_
  ·refine ae 6 [.own 1,.own 0,.own 0,.own 0,.own 0] λ V8=>fR MJ Sa [y_.1] 0 0 rfl IS (by simp;omega) ?_
   rintro A14 c15 TF ⟨hs17,hz18⟩
   refine ae 3 [.own 2] λ _=>cj 3 (congrArg (λ v_=>(.lit [vI v_] 3 (0,0):Blk)) (show ((c_:Int)+1)=((c_+1:Nat):Int) by omega))<|cj 2 (congrArg (λ v_=>(.lit [.slice A14 v_ c15] 145 (0,0):Blk)) (show Sa.length+1=(Sa++[y_.1]).length by simp))<|RN.rn (c_+1,Sa++[y_.1],A14,c15,TF) [2,3] [0] ?_
   try dsimp only
   exact⟨by omega,by rw[Gi X7 RE,<- RU],hs17⟩
  ·refine ae 3 [] λ _=>cj 2 (congrArg (λ v_=>(.lit [vI v_] 3 (0,0):Blk)) (show ((c_:Int)+1)=((c_+1:Nat):Int) by omega))<|RN.rn (c_+1,Sa,B_,b_,E_) [1,2] [0] ?_
   try dsimp only
   exact⟨by omega,by rw[J0 X7 RE,<- RU],IS⟩
 ·rintro d19 ⟨c_,Sa,B_,b_,E_⟩ Uy ⟨Ut,RU,IS⟩ hT21
  refine ae 3 [] λ _=>RN.draw [0,1,2,3,4] []<|jU (σ:=Unit) (λ _=>⟨[(4,vP (n1+1) 0),(5,vP (n1+2) 0),(6,vP (n1+3) 0)],[(d19,.obj (.deferred (some []))),((n1+1),.lit [.slice B_ Sa.length b_] 145 (0,0)),((n1+2),.lit [vI (c_:Int)] 3 (0,0)),((n3+1),.lit [vS ib (io*3) ni ic] 54 (0,0)),((n3+0),.lit [vP gb 0] 83 (0,0)),((n2+0),.lit [vI (bg (M.base+(M.lg.length:Int)))] 3 (0,0)),((n1+3),.lit [vI 0] 42 (0,0)),((n1+0),.lit [vP gb 0] 83 (0,0)),(gb,.lit (d8 S bp mb) 140 (0,0))],[E_,Uy,U],True,0⟩) ?_ ?_
  ·rintro⟨⟩
   refine ae 1 [] λ _=>Pj ?_
   refine LV.mark 0 ?_
   refine Pl (enters_of Tryz.func102 (by kernel_rfl) rfl) [] [] (HM _ _ _ _ _ _) ?_
   rintro _ _ _
   refine LV.ret [.own 0,.own 1,.own 5] [7] [1,2,0] (v:=.tuple #[.slice B_ Sa.length b_,vI (c_:Int),vI 0]) (H':=(ap [(gb,.lit (d8 S bp mb) 140 (0,0))] [Uy,U,E_])) ?_
   have e1:Sa=fK (gC S j ni xs) (m+1) M:=by rw[RU,List.take_length,wU]
   have e2:c_=m+1:=by rw[Ut,iZ]
   subst e1
   subst e2
   exact⟨(Uy,B_,b_,E_),rfl,hT21,IS,rfl⟩
  ·intro U6
   refine fQ 0 1 ?_ ?_
   ·refine RDO.ev [] [.own 1] λ _=>fQ 1 2 ?_ ?_
    ·refine RDO.ev [] [.own 2] λ _=>RD.one 2 (RDO.ev [] [.own 1] λ _=>?_)
     refine RD.one 3 (RDO.ev [] [.own 2] λ _=>?_)
     refine RD.one 4 (RDO.ev [] [.own 6] λ _=>?_)
     exact U6 () [0,1,2,3,4,5,6,7,8] [0,1,2]
    ·refine RDO.ev [] [.own 1] λ _=>RD.one 1 (RDO.ev [] [.own 2] λ _=>?_)
     refine RD.one 3 (RDO.ev [] [.own 2] λ _=>?_)
     refine RD.one 4 (RDO.ev [] [.own 6] λ _=>?_)
     exact U6 () [0,1,2,3,4,5,6,7,8] [0,1,2]
   ·refine RDO.ev [] [.own 2] λ _=>RD.one 0 (RDO.ev [] [.own 1] λ _=>?_)
    refine RD.one 2 (RDO.ev [] [.own 1] λ _=>?_)
    refine RD.one 3 (RDO.ev [] [.own 2] λ _=>?_)
    refine RD.one 4 (RDO.ev [] [.own 6] λ _=>?_)
    exact U6 () [0,1,2,3,4,5,6,7,8] [0,1,2]
 ·exact λ _ _ _ _ h _=>h.elim
end Go.Proofs.YtgdcbiiopbpgaaaGreatDoor
