import Derived.Test.YtkhifpbokgabbaaGreatDoorW29
set_option maxHeartbeats 4000000
set_option maxRecDepth 100000
set_option linter.unusedSimpArgs false
set_option linter.unusedVariables false
namespace Go.Proofs.YtkhifpbokgabbaaGreatDoor
open Go.RowKit
theorem c_binary1 (tb m:Nat) (e0 e1 e2:Int) (kv:List (ByteArray × Value)) (l:List Ins) (A:Option Addr) (c:Nat) (T F:HL) (hs:SlIs insE 136 l A c T) (hz:zeroOff A) (ok:OKc l) (hkv:AllInt kv) (h:Nat) (x:Nd) (hx:Ht (h+1) x) (hN:NdIn F x) (ih:TrC h) (b2 b3:Nat) (h2:(b2,.lit [vP tb 0] 132 (0,0)) ∈ F) (h3:(b3,.lit [vI x.k,vI x.n,.string x.s,.slice x.A x.kids.length x.c] 70 (0,0)) ∈ F) (hb:l.length+(gr h+1) <= 100000000):Sp Tryz.prog 94 #[vP b2 0,vP b3 0] (ap [(tb,.lit [.slice A l.length c,.map (some m),vI e0,vI e1,vI e2] 103 (0,0)),(m,.obj (smap kv))] [T]) F (TrR tb m e0 e1 e2 kv l (gr h+1)):=by
 have hgr:gr (h+1)=3 * gr h+5:=rfl
 refine Sp.run Tryz.func94 rfl (mc h2 (mc h3 mn)) (A:=[(tb,.lit [.slice A l.length c,.map (some m),vI e0,vI e1,vI e2] 103 (0,0)),(m,.obj (smap kv))]) (Ts:=[T]) rfl λ w0=>?_
 refine RN.go 3 [.ro 0,.ro 1,.ro 1,.ro 1,.ro 1] λ _=>RN.ct [0,1] [0] (kid_any tb m e0 e1 e2 kv l A c T _ hs hz ok hkv h x hx hN.up ih 0 0 rfl (by omega)) ?_
 rintro _ ⟨l1,A2,c3,T4⟩ ⟨hs5,hz6,hg7,hl8,ok9⟩
 dsimp only at hs5 hz6 hg7 hl8 ok9
 refine RN.go 1 [] λ _=>RN.ret [] [0,1] [0] (v:=.tuple #[]) (H':=(ap [(tb,.lit [.slice A2 l1.length c3,.map (some m),vI e0,vI e1,vI e2] 103 (0,0)),(m,.obj (smap kv))] [T4])) ?_
 exact ⟨(l1,A2,c3,T4),rfl,hs5,hz6,(by dsimp only;omega),(by dsimp only;omega),ok9⟩
theorem c_binary2 (tb m:Nat) (e0 e1 e2:Int) (kv:List (ByteArray × Value)) (l:List Ins) (A:Option Addr) (c:Nat) (T F:HL) (hs:SlIs insE 136 l A c T) (hz:zeroOff A) (ok:OKc l) (hkv:AllInt kv) (h:Nat) (x:Nd) (hx:Ht (h+1) x) (hN:NdIn F x) (ih:TrC h) (b2 b3:Nat) (h2:(b2,.lit [vP tb 0] 132 (0,0)) ∈ F) (h3:(b3,.lit [vI x.k,vI x.n,.string x.s,.slice x.A x.kids.length x.c] 70 (0,0)) ∈ F) (hb:l.length+(gr h+1) <= 100000000):Sp Tryz.prog 95 #[vP b2 0,vP b3 0] (ap [(tb,.lit [.slice A l.length c,.map (some m),vI e0,vI e1,vI e2] 103 (0,0)),(m,.obj (smap kv))] [T]) F (TrR tb m e0 e1 e2 kv l (gr h+1)):=by
 have hgr:gr (h+1)=3 * gr h+5:=rfl
 refine Sp.run Tryz.func95 rfl (mc h2 (mc h3 mn)) (A:=[(tb,.lit [.slice A l.length c,.map (some m),vI e0,vI e1,vI e2] 103 (0,0)),(m,.obj (smap kv))]) (Ts:=[T]) rfl λ w0=>?_
 refine RN.go 3 [.ro 0,.ro 1,.ro 1,.ro 1,.ro 1] λ _=>RN.ct [0,1] [0] (kid_any tb m e0 e1 e2 kv l A c T _ hs hz ok hkv h x hx hN.up ih 1 1 rfl (by omega)) ?_
 rintro _ ⟨l1,A2,c3,T4⟩ ⟨hs5,hz6,hg7,hl8,ok9⟩
 dsimp only at hs5 hz6 hg7 hl8 ok9
 refine RN.go 1 [] λ _=>RN.ret [] [0,1] [0] (v:=.tuple #[]) (H':=(ap [(tb,.lit [.slice A2 l1.length c3,.map (some m),vI e0,vI e1,vI e2] 103 (0,0)),(m,.obj (smap kv))] [T4])) ?_
 exact ⟨(l1,A2,c3,T4),rfl,hs5,hz6,(by dsimp only;omega),(by dsimp only;omega),ok9⟩
theorem c_binary3 (tb m:Nat) (e0 e1 e2:Int) (kv:List (ByteArray × Value)) (l:List Ins) (A:Option Addr) (c:Nat) (T F:HL) (hs:SlIs insE 136 l A c T) (hz:zeroOff A) (ok:OKc l) (hkv:AllInt kv) (h:Nat) (x:Nd) (hx:Ht (h+1) x) (hN:NdIn F x) (ih:TrC h) (b2 b3:Nat) (h2:(b2,.lit [vP tb 0] 132 (0,0)) ∈ F) (h3:(b3,.lit [vI x.k,vI x.n,.string x.s,.slice x.A x.kids.length x.c] 70 (0,0)) ∈ F) (hb:l.length+(gr h+1) <= 100000000):Sp Tryz.prog 96 #[vP b2 0] (ap [(tb,.lit [.slice A l.length c,.map (some m),vI e0,vI e1,vI e2] 103 (0,0)),(m,.obj (smap kv))] [T]) F (TrR tb m e0 e1 e2 kv l (gr h+1)):=by
 have hgr:gr (h+1)=3 * gr h+5:=rfl
 refine Sp.run Tryz.func96 rfl (mc h2 (mc h3 mn)) (A:=[(tb,.lit [.slice A l.length c,.map (some m),vI e0,vI e1,vI e2] 103 (0,0)),(m,.obj (smap kv))]) (Ts:=[T]) rfl λ w0=>?_
 refine RN.go 2 [.ro 0] λ _=>RN.ct [0,1] [0] (emit_any tb m e0 e1 e2 kv l A c T _ hs hz ok hkv 1 0 (by omega) (by intro h;omega) (by omega)) ?_
 rintro _ ⟨l1,A2,c3,T4⟩ ⟨rfl,hs5,hz6,hl7,ok8⟩
 dsimp only at hs5 hz6 hl7 ok8
 refine RN.go 1 [] λ _=>RN.ret [] [0,1] [0] (v:=.tuple #[]) (H':=(ap [(tb,.lit [.slice A2 l1.length c3,.map (some m),vI e0,vI e1,vI e2] 103 (0,0)),(m,.obj (smap kv))] [T4])) ?_
 exact ⟨(l1,A2,c3,T4),rfl,hs5,hz6,(by dsimp only;omega),(by dsimp only;omega),ok8⟩
theorem c_binary4 (tb m:Nat) (e0 e1 e2:Int) (kv:List (ByteArray × Value)) (l:List Ins) (A:Option Addr) (c:Nat) (T F:HL) (hs:SlIs insE 136 l A c T) (hz:zeroOff A) (ok:OKc l) (hkv:AllInt kv) (h:Nat) (x:Nd) (hx:Ht (h+1) x) (hN:NdIn F x) (ih:TrC h) (b2 b3:Nat) (h2:(b2,.lit [vP tb 0] 132 (0,0)) ∈ F) (h3:(b3,.lit [vI x.k,vI x.n,.string x.s,.slice x.A x.kids.length x.c] 70 (0,0)) ∈ F) (hb:l.length+(gr h+1) <= 100000000):Sp Tryz.prog 97 #[vP b2 0,vP b3 0] (ap [(tb,.lit [.slice A l.length c,.map (some m),vI e0,vI e1,vI e2] 103 (0,0)),(m,.obj (smap kv))] [T]) F (TrR tb m e0 e1 e2 kv l (gr h+1)):=by
 have hgr:gr (h+1)=3 * gr h+5:=rfl
 refine Sp.run Tryz.func97 rfl (mc h2 (mc h3 mn)) (A:=[(tb,.lit [.slice A l.length c,.map (some m),vI e0,vI e1,vI e2] 103 (0,0)),(m,.obj (smap kv))]) (Ts:=[T]) rfl λ w0=>?_
 refine RN.go 3 [.ro 0,.ro 1,.ro 1,.ro 1,.ro 1] λ _=>RN.ct [0,1] [0] (kid_any tb m e0 e1 e2 kv l A c T _ hs hz ok hkv h x hx hN.up ih 0 0 rfl (by omega)) ?_
 rintro _ ⟨l1,A2,c3,T4⟩ ⟨hs5,hz6,hg7,hl8,ok9⟩
 dsimp only at hs5 hz6 hg7 hl8 ok9
 refine RN.go 1 [] λ _=>RN.ret [] [0,1] [0] (v:=.tuple #[]) (H':=(ap [(tb,.lit [.slice A2 l1.length c3,.map (some m),vI e0,vI e1,vI e2] 103 (0,0)),(m,.obj (smap kv))] [T4])) ?_
 exact ⟨(l1,A2,c3,T4),rfl,hs5,hz6,(by dsimp only;omega),(by dsimp only;omega),ok9⟩
theorem c_binary5 (tb m:Nat) (e0 e1 e2:Int) (kv:List (ByteArray × Value)) (l:List Ins) (A:Option Addr) (c:Nat) (T F:HL) (hs:SlIs insE 136 l A c T) (hz:zeroOff A) (ok:OKc l) (hkv:AllInt kv) (h:Nat) (x:Nd) (hx:Ht (h+1) x) (hN:NdIn F x) (ih:TrC h) (b2 b3:Nat) (h2:(b2,.lit [vP tb 0] 132 (0,0)) ∈ F) (h3:(b3,.lit [vI x.k,vI x.n,.string x.s,.slice x.A x.kids.length x.c] 70 (0,0)) ∈ F) (hb:l.length+(gr h+1) <= 100000000):Sp Tryz.prog 98 #[vP b2 0] (ap [(tb,.lit [.slice A l.length c,.map (some m),vI e0,vI e1,vI e2] 103 (0,0)),(m,.obj (smap kv))] [T]) F (TrR tb m e0 e1 e2 kv l (gr h+1)):=by
 have hgr:gr (h+1)=3 * gr h+5:=rfl
 refine Sp.run Tryz.func98 rfl (mc h2 (mc h3 mn)) (A:=[(tb,.lit [.slice A l.length c,.map (some m),vI e0,vI e1,vI e2] 103 (0,0)),(m,.obj (smap kv))]) (Ts:=[T]) rfl λ w0=>?_
 refine RN.go 2 [.ro 0] λ _=>RN.ct [0,1] [0] (emit_any tb m e0 e1 e2 kv l A c T _ hs hz ok hkv 1 1 (by omega) (by intro h;omega) (by omega)) ?_
 rintro _ ⟨l1,A2,c3,T4⟩ ⟨rfl,hs5,hz6,hl7,ok8⟩
 dsimp only at hs5 hz6 hl7 ok8
 refine RN.go 1 [] λ _=>RN.ret [] [0,1] [0] (v:=.tuple #[]) (H':=(ap [(tb,.lit [.slice A2 l1.length c3,.map (some m),vI e0,vI e1,vI e2] 103 (0,0)),(m,.obj (smap kv))] [T4])) ?_
 exact ⟨(l1,A2,c3,T4),rfl,hs5,hz6,(by dsimp only;omega),(by dsimp only;omega),ok8⟩
theorem c_binary6 (tb m:Nat) (e0 e1 e2:Int) (kv:List (ByteArray × Value)) (l:List Ins) (A:Option Addr) (c:Nat) (T F:HL) (hs:SlIs insE 136 l A c T) (hz:zeroOff A) (ok:OKc l) (hkv:AllInt kv) (h:Nat) (x:Nd) (hx:Ht (h+1) x) (hN:NdIn F x) (ih:TrC h) (b2 b3:Nat) (h2:(b2,.lit [vP tb 0] 132 (0,0)) ∈ F) (h3:(b3,.lit [vI x.k,vI x.n,.string x.s,.slice x.A x.kids.length x.c] 70 (0,0)) ∈ F) (hb:l.length+(gr h+1) <= 100000000):Sp Tryz.prog 99 #[vP b2 0,vP b3 0] (ap [(tb,.lit [.slice A l.length c,.map (some m),vI e0,vI e1,vI e2] 103 (0,0)),(m,.obj (smap kv))] [T]) F (TrR tb m e0 e1 e2 kv l (gr h+1)):=by
 have hgr:gr (h+1)=3 * gr h+5:=rfl
 refine Sp.run Tryz.func99 rfl (mc h2 (mc h3 mn)) (A:=[(tb,.lit [.slice A l.length c,.map (some m),vI e0,vI e1,vI e2] 103 (0,0)),(m,.obj (smap kv))]) (Ts:=[T]) rfl λ w0=>?_
 refine RN.go 3 [.ro 0,.ro 1,.ro 1,.ro 1,.ro 1] λ _=>RN.ct [0,1] [0] (kid_any tb m e0 e1 e2 kv l A c T _ hs hz ok hkv h x hx hN.up ih 1 1 rfl (by omega)) ?_
 rintro _ ⟨l1,A2,c3,T4⟩ ⟨hs5,hz6,hg7,hl8,ok9⟩
 dsimp only at hs5 hz6 hg7 hl8 ok9
 refine RN.go 1 [] λ _=>RN.ret [] [0,1] [0] (v:=.tuple #[]) (H':=(ap [(tb,.lit [.slice A2 l1.length c3,.map (some m),vI e0,vI e1,vI e2] 103 (0,0)),(m,.obj (smap kv))] [T4])) ?_
 exact ⟨(l1,A2,c3,T4),rfl,hs5,hz6,(by dsimp only;omega),(by dsimp only;omega),ok9⟩
theorem c_statement1 (tb m:Nat) (e0 e1 e2:Int) (kv:List (ByteArray × Value)) (l:List Ins) (A:Option Addr) (c:Nat) (T F:HL) (hs:SlIs insE 136 l A c T) (hz:zeroOff A) (ok:OKc l) (hkv:AllInt kv) (h:Nat) (x:Nd) (hx:Ht (h+1) x) (hN:NdIn F x) (ih:TrC h) (b2 b3:Nat) (h2:(b2,.lit [vP tb 0] 132 (0,0)) ∈ F) (h3:(b3,.lit [vI x.k,vI x.n,.string x.s,.slice x.A x.kids.length x.c] 70 (0,0)) ∈ F) (hb:l.length+(gr h+1) <= 100000000):Sp Tryz.prog 101 #[vP b2 0,vP b3 0] (ap [(tb,.lit [.slice A l.length c,.map (some m),vI e0,vI e1,vI e2] 103 (0,0)),(m,.obj (smap kv))] [T]) F (TrR tb m e0 e1 e2 kv l (gr h+1)):=by
 have hgr:gr (h+1)=3 * gr h+5:=rfl
 refine Sp.run Tryz.func101 rfl (mc h2 (mc h3 mn)) (A:=[(tb,.lit [.slice A l.length c,.map (some m),vI e0,vI e1,vI e2] 103 (0,0)),(m,.obj (smap kv))]) (Ts:=[T]) rfl λ w0=>?_
 refine RN.go 3 [.ro 0,.ro 1,.ro 1,.ro 1,.ro 1] λ _=>RN.ct [0,1] [0] (kid_any tb m e0 e1 e2 kv l A c T _ hs hz ok hkv h x hx hN.up ih 0 0 rfl (by omega)) ?_
 rintro _ ⟨l1,A2,c3,T4⟩ ⟨hs5,hz6,hg7,hl8,ok9⟩
 dsimp only at hs5 hz6 hg7 hl8 ok9
 refine RN.go 1 [] λ _=>RN.ret [] [0,1] [0] (v:=.tuple #[]) (H':=(ap [(tb,.lit [.slice A2 l1.length c3,.map (some m),vI e0,vI e1,vI e2] 103 (0,0)),(m,.obj (smap kv))] [T4])) ?_
 exact ⟨(l1,A2,c3,T4),rfl,hs5,hz6,(by dsimp only;omega),(by dsimp only;omega),ok9⟩
theorem c_statement2 (tb m:Nat) (e0 e1 e2:Int) (kv:List (ByteArray × Value)) (l:List Ins) (A:Option Addr) (c:Nat) (T F:HL) (hs:SlIs insE 136 l A c T) (hz:zeroOff A) (ok:OKc l) (hkv:AllInt kv) (h:Nat) (x:Nd) (hx:Ht (h+1) x) (hN:NdIn F x) (ih:TrC h) (b2 b3:Nat) (h2:(b2,.lit [vP tb 0] 132 (0,0)) ∈ F) (h3:(b3,.lit [vI x.k,vI x.n,.string x.s,.slice x.A x.kids.length x.c] 70 (0,0)) ∈ F) (hb:l.length+(gr h+1) <= 100000000):Sp Tryz.prog 102 #[vP b2 0,vP b3 0] (ap [(tb,.lit [.slice A l.length c,.map (some m),vI e0,vI e1,vI e2] 103 (0,0)),(m,.obj (smap kv))] [T]) F (TrR tb m e0 e1 e2 kv l (gr h+1)):=by
 have hgr:gr (h+1)=3 * gr h+5:=rfl
 refine Sp.run Tryz.func102 rfl (mc h2 (mc h3 mn)) (A:=[(tb,.lit [.slice A l.length c,.map (some m),vI e0,vI e1,vI e2] 103 (0,0)),(m,.obj (smap kv))]) (Ts:=[T]) rfl λ w0=>?_
 refine RN.go 3 [.ro 0,.ro 1,.ro 1,.ro 1,.ro 1] λ _=>RN.ct [0,1] [0] (kid_any tb m e0 e1 e2 kv l A c T _ hs hz ok hkv h x hx hN.up ih 1 1 rfl (by omega)) ?_
 rintro _ ⟨l1,A2,c3,T4⟩ ⟨hs5,hz6,hg7,hl8,ok9⟩
 dsimp only at hs5 hz6 hg7 hl8 ok9
 refine RN.go 1 [] λ _=>RN.ret [] [0,1] [0] (v:=.tuple #[]) (H':=(ap [(tb,.lit [.slice A2 l1.length c3,.map (some m),vI e0,vI e1,vI e2] 103 (0,0)),(m,.obj (smap kv))] [T4])) ?_
 exact ⟨(l1,A2,c3,T4),rfl,hs5,hz6,(by dsimp only;omega),(by dsimp only;omega),ok9⟩
theorem c_statement3 (tb m:Nat) (e0 e1 e2:Int) (kv:List (ByteArray × Value)) (l:List Ins) (A:Option Addr) (c:Nat) (T F:HL) (hs:SlIs insE 136 l A c T) (hz:zeroOff A) (ok:OKc l) (hkv:AllInt kv) (h:Nat) (x:Nd) (hx:Ht (h+1) x) (hN:NdIn F x) (ih:TrC h) (b2 b3:Nat) (h2:(b2,.lit [vP tb 0] 132 (0,0)) ∈ F) (h3:(b3,.lit [vI x.k,vI x.n,.string x.s,.slice x.A x.kids.length x.c] 70 (0,0)) ∈ F) (hb:l.length+(gr h+1) <= 100000000):Sp Tryz.prog 103 #[vP b2 0,vP b3 0] (ap [(tb,.lit [.slice A l.length c,.map (some m),vI e0,vI e1,vI e2] 103 (0,0)),(m,.obj (smap kv))] [T]) F (TrR tb m e0 e1 e2 kv l (gr h+1)):=by
 have hgr:gr (h+1)=3 * gr h+5:=rfl
 refine Sp.run Tryz.func103 rfl (mc h2 (mc h3 mn)) (A:=[(tb,.lit [.slice A l.length c,.map (some m),vI e0,vI e1,vI e2] 103 (0,0)),(m,.obj (smap kv))]) (Ts:=[T]) rfl λ w0=>?_
 refine RN.go 3 [.ro 0,.ro 1,.ro 1,.ro 1,.ro 1] λ _=>RN.ct [0,1] [0] (kid_any tb m e0 e1 e2 kv l A c T _ hs hz ok hkv h x hx hN.up ih 2 2 rfl (by omega)) ?_
 rintro _ ⟨l1,A2,c3,T4⟩ ⟨hs5,hz6,hg7,hl8,ok9⟩
 dsimp only at hs5 hz6 hg7 hl8 ok9
 refine RN.go 1 [] λ _=>RN.ret [] [0,1] [0] (v:=.tuple #[]) (H':=(ap [(tb,.lit [.slice A2 l1.length c3,.map (some m),vI e0,vI e1,vI e2] 103 (0,0)),(m,.obj (smap kv))] [T4])) ?_
 exact ⟨(l1,A2,c3,T4),rfl,hs5,hz6,(by dsimp only;omega),(by dsimp only;omega),ok9⟩
theorem first_b1 (tb m:Nat) (e0 e1 e2:Int) (kv:List (ByteArray × Value)) (l:List Ins) (A:Option Addr) (c:Nat) (T F:HL) (hs:SlIs insE 136 l A c T) (hz:zeroOff A) (ok:OKc l) (hkv:AllInt kv) (h:Nat) (x:Nd) (hx:Ht (h+1) x) (hN:NdIn F x) (ih:TrC h) (b2 b3:Nat) (h2:(b2,.lit [vP tb 0] 132 (0,0)) ∈ F) (h3:(b3,.lit [vI x.k,vI x.n,.string x.s,.slice x.A x.kids.length x.c] 70 (0,0)) ∈ F) (hb:l.length+(gr h+3) <= 100000000):Sp Tryz.prog 135 #[vP tb 0,.func (.func 95) #[] #[vP b2 0,vP b3 0]] (ap [(tb,.lit [.slice A l.length c,.map (some m),vI e0,vI e1,vI e2] 103 (0,0)),(m,.obj (smap kv))] [T]) F (λ u H'=>∃ x:List Ins × Option Addr × Nat × HL × Nat × Nat × Nat,H'=ap ((x.2.2.2.2.1,.lit [vP tb 0] 132 (0,0)) :: (x.2.2.2.2.2.1,.lit [vI (x.2.2.2.2.2.2:Int)] 3 (0,0)) :: trH tb m e0 e1 e2 kv x.1.length x.2.1 x.2.2.1) [x.2.2.2.1] /\ (u=.func (.func 152) #[] #[vP x.2.2.2.2.1 0,vP x.2.2.2.2.2.1 0] /\ x.2.2.2.2.2.2 < x.1.length /\ SlIs insE 136 x.1 x.2.1 x.2.2.1 x.2.2.2.1 /\ zeroOff x.2.1 /\ l.length <= x.1.length /\ x.1.length <= l.length+(gr h+3) /\ OKc x.1)):=by
 have hgr:gr (h+1)=3 * gr h+5:=rfl
 refine Sp.runM Tryz.func135 rfl (mc h2 (mc h3 mn)) (A:=[(tb,.lit [.slice A l.length c,.map (some m),vI e0,vI e1,vI e2] 103 (0,0)),(m,.obj (smap kv))]) (Ts:=[T]) rfl λ w0=>?_
 refine RN.go 8 [] λ _=>RN.ct [0,1] [0] (jump_any tb m e0 e1 e2 kv l A c T _ hs hz ok hkv 19 (by omega) (by omega)) ?_
 rintro _ ⟨l1,A2,c3,T4,q5,q6⟩ ⟨rfl,hs7,hz8,hl9,ok10⟩
 dsimp only at hs7 hz8 hl9 ok10
 refine RN.go 6 [] λ _=>RN.df (g:=152) (args:=#[]) (cap:=#[vP q5 0,vP q6 0])<|RN.go 5 [] λ _=>RN.ct [2,3] [0] (c_binary2 tb m e0 e1 e2 kv l1 A2 c3 T4 _ hs7 hz8 ok10 hkv h x hx hN.up ih b2 b3 (ro_ap h2) (ro_ap h3) (by omega)) ?_
 rintro _ ⟨l11,A12,c13,T14⟩ ⟨hs15,hz16,hg17,hl18,ok19⟩
 dsimp only at hs15 hz16 hg17 hl18 ok19
 refine RN.go 5 [] λ _=>RN.ct [0,1] [0] (jump_any tb m e0 e1 e2 kv l11 A12 c13 T14 _ hs15 hz16 ok19 hkv 18 (by omega) (by omega)) ?_
 rintro _ ⟨l20,A21,c22,T23,q24,q25⟩ ⟨rfl,hs26,hz27,hl28,ok29⟩
 dsimp only at hs26 hz27 hl28 ok29
 refine RN.go 3 [] λ _=>RN.lv ?_
 refine LV.df (enters_of Tryz.func152 (by kernel_rfl) rfl) [] [0] (jset_any tb m q5 q6 c22 l.length e0 e1 e2 l20 A21 T23 _ hs26 hz27 (by omega) ok29 (in_ap 4) (in_ap 5) (in_ap 2)) ?_
 rintro _ ⟨l30,T31⟩ ⟨hs32,hl33,ok34⟩
 dsimp only at hs32 hl33 ok34
 refine LV.bv 2 (congrArg (λ v_=>(.lit [.slice A21 v_ c22,.map (some m),vI e0,vI e1,vI e2] 103 (0,0):Blk)) hl33.symm) ?_
 refine LV.ret [] [0,1,2,3] [0] (v:=.func (.func 152) #[] #[vP q24 0,vP q25 0]) (H':=(ap [(q24,.lit [vP tb 0] 132 (0,0)),(q25,.lit [vI (l11.length:Int)] 3 (0,0)),(tb,.lit [.slice A21 l30.length c22,.map (some m),vI e0,vI e1,vI e2] 103 (0,0)),(m,.obj (smap kv))] [T31])) ?_
 exact ⟨(l30,A21,c22,T31,q24,q25,l11.length),rfl,rfl,(by dsimp only;omega),hs32,hz27,(by dsimp only;omega),(by dsimp only;omega),ok34⟩
theorem choice_b1 (tb m:Nat) (e0 e1 e2:Int) (kv:List (ByteArray × Value)) (l:List Ins) (A:Option Addr) (c:Nat) (T F:HL) (hs:SlIs insE 136 l A c T) (hz:zeroOff A) (ok:OKc l) (hkv:AllInt kv) (h:Nat) (x:Nd) (hx:Ht (h+1) x) (hN:NdIn F x) (ih:TrC h) (b2 b3:Nat) (h2:(b2,.lit [vP tb 0] 132 (0,0)) ∈ F) (h3:(b3,.lit [vI x.k,vI x.n,.string x.s,.slice x.A x.kids.length x.c] 70 (0,0)) ∈ F) (hb:l.length+(3 * gr h+5) <= 100000000):Sp Tryz.prog 93 #[vP tb 0,.func (.func 94) #[] #[vP b2 0,vP b3 0],.func (.func 95) #[] #[vP b2 0,vP b3 0],.func (.func 96) #[] #[vP b2 0]] (ap [(tb,.lit [.slice A l.length c,.map (some m),vI e0,vI e1,vI e2] 103 (0,0)),(m,.obj (smap kv))] [T]) F (TrR tb m e0 e1 e2 kv l (3 * gr h+5)):=by
 have hgr:gr (h+1)=3 * gr h+5:=rfl
 refine Sp.runM Tryz.func93 rfl (mc h2 (mc h3 mn)) (A:=[(tb,.lit [.slice A l.length c,.map (some m),vI e0,vI e1,vI e2] 103 (0,0)),(m,.obj (smap kv))]) (Ts:=[T]) rfl λ w0=>?_
 refine RN.go 3 [] λ _=>RN.ct [0,1] [0] (c_binary1 tb m e0 e1 e2 kv l A c T _ hs hz ok hkv h x hx hN.up ih b2 b3 (ro_ap h2) (ro_ap h3) (by omega)) ?_
 rintro _ ⟨l1,A2,c3,T4⟩ ⟨hs5,hz6,hg7,hl8,ok9⟩
 dsimp only at hs5 hz6 hg7 hl8 ok9
 refine RN.go 6 [] λ _=>RN.ct [0,1] [0] (first_b1 tb m e0 e1 e2 kv l1 A2 c3 T4 _ hs5 hz6 ok9 hkv h x hx hN.up ih b2 b3 (ro_ap h2) (ro_ap h3) (by omega)) ?_
 rintro _ ⟨l10,A11,c12,T13,q14,q15,k16⟩ ⟨rfl,hk17,hs18,hz19,hg20,hl21,ok22⟩
 dsimp only at hk17 hs18 hz19 hg20 hl21 ok22
 refine RN.df (g:=152) (args:=#[]) (cap:=#[vP q14 0,vP q15 0])<|RN.go 4 [] λ _=>RN.ct [2,3] [0] (c_binary3 tb m e0 e1 e2 kv l10 A11 c12 T13 _ hs18 hz19 ok22 hkv h x hx hN.up ih b2 b3 (ro_ap h2) (ro_ap h3) (by omega)) ?_
 rintro _ ⟨l23,A24,c25,T26⟩ ⟨hs27,hz28,hg29,hl30,ok31⟩
 dsimp only at hs27 hz28 hg29 hl30 ok31
 refine RN.go 1 [] λ _=>RN.lv ?_
 refine LV.df (enters_of Tryz.func152 (by kernel_rfl) rfl) [] [0] (jset_any tb m q14 q15 c25 k16 e0 e1 e2 l23 A24 T26 _ hs27 hz28 (by omega) ok31 (in_ap 2) (in_ap 3) (in_ap 0)) ?_
 rintro _ ⟨l32,T33⟩ ⟨hs34,hl35,ok36⟩
 dsimp only at hs34 hl35 ok36
 refine LV.bv 0 (congrArg (λ v_=>(.lit [.slice A24 v_ c25,.map (some m),vI e0,vI e1,vI e2] 103 (0,0):Blk)) hl35.symm) ?_
 refine LV.ret [] [0,1] [0] (v:=.tuple #[]) (H':=(ap [(tb,.lit [.slice A24 l32.length c25,.map (some m),vI e0,vI e1,vI e2] 103 (0,0)),(m,.obj (smap kv))] [T33])) ?_
 exact ⟨(l32,A24,c25,T33),rfl,hs34,hz28,(by dsimp only;omega),(by dsimp only;omega),ok36⟩
theorem first_b2 (tb m:Nat) (e0 e1 e2:Int) (kv:List (ByteArray × Value)) (l:List Ins) (A:Option Addr) (c:Nat) (T F:HL) (hs:SlIs insE 136 l A c T) (hz:zeroOff A) (ok:OKc l) (hkv:AllInt kv) (h:Nat) (x:Nd) (hx:Ht (h+1) x) (hN:NdIn F x) (ih:TrC h) (b2 b3:Nat) (h2:(b2,.lit [vP tb 0] 132 (0,0)) ∈ F) (h3:(b3,.lit [vI x.k,vI x.n,.string x.s,.slice x.A x.kids.length x.c] 70 (0,0)) ∈ F) (hb:l.length+(gr h+3) <= 100000000):Sp Tryz.prog 135 #[vP tb 0,.func (.func 98) #[] #[vP b2 0]] (ap [(tb,.lit [.slice A l.length c,.map (some m),vI e0,vI e1,vI e2] 103 (0,0)),(m,.obj (smap kv))] [T]) F (λ u H'=>∃ x:List Ins × Option Addr × Nat × HL × Nat × Nat × Nat,H'=ap ((x.2.2.2.2.1,.lit [vP tb 0] 132 (0,0)) :: (x.2.2.2.2.2.1,.lit [vI (x.2.2.2.2.2.2:Int)] 3 (0,0)) :: trH tb m e0 e1 e2 kv x.1.length x.2.1 x.2.2.1) [x.2.2.2.1] /\ (u=.func (.func 152) #[] #[vP x.2.2.2.2.1 0,vP x.2.2.2.2.2.1 0] /\ x.2.2.2.2.2.2 < x.1.length /\ SlIs insE 136 x.1 x.2.1 x.2.2.1 x.2.2.2.1 /\ zeroOff x.2.1 /\ l.length <= x.1.length /\ x.1.length <= l.length+(gr h+3) /\ OKc x.1)):=by
 have hgr:gr (h+1)=3 * gr h+5:=rfl
 refine Sp.runM Tryz.func135 rfl (mc h2 (mc h3 mn)) (A:=[(tb,.lit [.slice A l.length c,.map (some m),vI e0,vI e1,vI e2] 103 (0,0)),(m,.obj (smap kv))]) (Ts:=[T]) rfl λ w0=>?_
 refine RN.go 8 [] λ _=>RN.ct [0,1] [0] (jump_any tb m e0 e1 e2 kv l A c T _ hs hz ok hkv 19 (by omega) (by omega)) ?_
 rintro _ ⟨l1,A2,c3,T4,q5,q6⟩ ⟨rfl,hs7,hz8,hl9,ok10⟩
 dsimp only at hs7 hz8 hl9 ok10
 refine RN.go 6 [] λ _=>RN.df (g:=152) (args:=#[]) (cap:=#[vP q5 0,vP q6 0])<|RN.go 5 [] λ _=>RN.ct [2,3] [0] (c_binary5 tb m e0 e1 e2 kv l1 A2 c3 T4 _ hs7 hz8 ok10 hkv h x hx hN.up ih b2 b3 (ro_ap h2) (ro_ap h3) (by omega)) ?_
 rintro _ ⟨l11,A12,c13,T14⟩ ⟨hs15,hz16,hg17,hl18,ok19⟩
 dsimp only at hs15 hz16 hg17 hl18 ok19
 refine RN.go 5 [] λ _=>RN.ct [0,1] [0] (jump_any tb m e0 e1 e2 kv l11 A12 c13 T14 _ hs15 hz16 ok19 hkv 18 (by omega) (by omega)) ?_
 rintro _ ⟨l20,A21,c22,T23,q24,q25⟩ ⟨rfl,hs26,hz27,hl28,ok29⟩
 dsimp only at hs26 hz27 hl28 ok29
 refine RN.go 3 [] λ _=>RN.lv ?_
 refine LV.df (enters_of Tryz.func152 (by kernel_rfl) rfl) [] [0] (jset_any tb m q5 q6 c22 l.length e0 e1 e2 l20 A21 T23 _ hs26 hz27 (by omega) ok29 (in_ap 4) (in_ap 5) (in_ap 2)) ?_
 rintro _ ⟨l30,T31⟩ ⟨hs32,hl33,ok34⟩
 dsimp only at hs32 hl33 ok34
 refine LV.bv 2 (congrArg (λ v_=>(.lit [.slice A21 v_ c22,.map (some m),vI e0,vI e1,vI e2] 103 (0,0):Blk)) hl33.symm) ?_
 refine LV.ret [] [0,1,2,3] [0] (v:=.func (.func 152) #[] #[vP q24 0,vP q25 0]) (H':=(ap [(q24,.lit [vP tb 0] 132 (0,0)),(q25,.lit [vI (l11.length:Int)] 3 (0,0)),(tb,.lit [.slice A21 l30.length c22,.map (some m),vI e0,vI e1,vI e2] 103 (0,0)),(m,.obj (smap kv))] [T31])) ?_
 exact ⟨(l30,A21,c22,T31,q24,q25,l11.length),rfl,rfl,(by dsimp only;omega),hs32,hz27,(by dsimp only;omega),(by dsimp only;omega),ok34⟩
theorem choice_b2 (tb m:Nat) (e0 e1 e2:Int) (kv:List (ByteArray × Value)) (l:List Ins) (A:Option Addr) (c:Nat) (T F:HL) (hs:SlIs insE 136 l A c T) (hz:zeroOff A) (ok:OKc l) (hkv:AllInt kv) (h:Nat) (x:Nd) (hx:Ht (h+1) x) (hN:NdIn F x) (ih:TrC h) (b2 b3:Nat) (h2:(b2,.lit [vP tb 0] 132 (0,0)) ∈ F) (h3:(b3,.lit [vI x.k,vI x.n,.string x.s,.slice x.A x.kids.length x.c] 70 (0,0)) ∈ F) (hb:l.length+(3 * gr h+5) <= 100000000):Sp Tryz.prog 93 #[vP tb 0,.func (.func 97) #[] #[vP b2 0,vP b3 0],.func (.func 98) #[] #[vP b2 0],.func (.func 99) #[] #[vP b2 0,vP b3 0]] (ap [(tb,.lit [.slice A l.length c,.map (some m),vI e0,vI e1,vI e2] 103 (0,0)),(m,.obj (smap kv))] [T]) F (TrR tb m e0 e1 e2 kv l (3 * gr h+5)):=by
 have hgr:gr (h+1)=3 * gr h+5:=rfl
 refine Sp.runM Tryz.func93 rfl (mc h2 (mc h3 mn)) (A:=[(tb,.lit [.slice A l.length c,.map (some m),vI e0,vI e1,vI e2] 103 (0,0)),(m,.obj (smap kv))]) (Ts:=[T]) rfl λ w0=>?_
 refine RN.go 3 [] λ _=>RN.ct [0,1] [0] (c_binary4 tb m e0 e1 e2 kv l A c T _ hs hz ok hkv h x hx hN.up ih b2 b3 (ro_ap h2) (ro_ap h3) (by omega)) ?_
 rintro _ ⟨l1,A2,c3,T4⟩ ⟨hs5,hz6,hg7,hl8,ok9⟩
 dsimp only at hs5 hz6 hg7 hl8 ok9
 refine RN.go 6 [] λ _=>RN.ct [0,1] [0] (first_b2 tb m e0 e1 e2 kv l1 A2 c3 T4 _ hs5 hz6 ok9 hkv h x hx hN.up ih b2 b3 (ro_ap h2) (ro_ap h3) (by omega)) ?_
 rintro _ ⟨l10,A11,c12,T13,q14,q15,k16⟩ ⟨rfl,hk17,hs18,hz19,hg20,hl21,ok22⟩
 dsimp only at hk17 hs18 hz19 hg20 hl21 ok22
 refine RN.df (g:=152) (args:=#[]) (cap:=#[vP q14 0,vP q15 0])<|RN.go 4 [] λ _=>RN.ct [2,3] [0] (c_binary6 tb m e0 e1 e2 kv l10 A11 c12 T13 _ hs18 hz19 ok22 hkv h x hx hN.up ih b2 b3 (ro_ap h2) (ro_ap h3) (by omega)) ?_
 rintro _ ⟨l23,A24,c25,T26⟩ ⟨hs27,hz28,hg29,hl30,ok31⟩
 dsimp only at hs27 hz28 hg29 hl30 ok31
 refine RN.go 1 [] λ _=>RN.lv ?_
 refine LV.df (enters_of Tryz.func152 (by kernel_rfl) rfl) [] [0] (jset_any tb m q14 q15 c25 k16 e0 e1 e2 l23 A24 T26 _ hs27 hz28 (by omega) ok31 (in_ap 2) (in_ap 3) (in_ap 0)) ?_
 rintro _ ⟨l32,T33⟩ ⟨hs34,hl35,ok36⟩
 dsimp only at hs34 hl35 ok36
 refine LV.bv 0 (congrArg (λ v_=>(.lit [.slice A24 v_ c25,.map (some m),vI e0,vI e1,vI e2] 103 (0,0):Blk)) hl35.symm) ?_
 refine LV.ret [] [0,1] [0] (v:=.tuple #[]) (H':=(ap [(tb,.lit [.slice A24 l32.length c25,.map (some m),vI e0,vI e1,vI e2] 103 (0,0)),(m,.obj (smap kv))] [T33])) ?_
 exact ⟨(l32,A24,c25,T33),rfl,hs34,hz28,(by dsimp only;omega),(by dsimp only;omega),ok36⟩
theorem first_st (tb m:Nat) (e0 e1 e2:Int) (kv:List (ByteArray × Value)) (l:List Ins) (A:Option Addr) (c:Nat) (T F:HL) (hs:SlIs insE 136 l A c T) (hz:zeroOff A) (ok:OKc l) (hkv:AllInt kv) (h:Nat) (x:Nd) (hx:Ht (h+1) x) (hN:NdIn F x) (ih:TrC h) (b2 b3:Nat) (h2:(b2,.lit [vP tb 0] 132 (0,0)) ∈ F) (h3:(b3,.lit [vI x.k,vI x.n,.string x.s,.slice x.A x.kids.length x.c] 70 (0,0)) ∈ F) (hb:l.length+(gr h+3) <= 100000000):Sp Tryz.prog 135 #[vP tb 0,.func (.func 102) #[] #[vP b2 0,vP b3 0]] (ap [(tb,.lit [.slice A l.length c,.map (some m),vI e0,vI e1,vI e2] 103 (0,0)),(m,.obj (smap kv))] [T]) F (λ u H'=>∃ x:List Ins × Option Addr × Nat × HL × Nat × Nat × Nat,H'=ap ((x.2.2.2.2.1,.lit [vP tb 0] 132 (0,0)) :: (x.2.2.2.2.2.1,.lit [vI (x.2.2.2.2.2.2:Int)] 3 (0,0)) :: trH tb m e0 e1 e2 kv x.1.length x.2.1 x.2.2.1) [x.2.2.2.1] /\ (u=.func (.func 152) #[] #[vP x.2.2.2.2.1 0,vP x.2.2.2.2.2.1 0] /\ x.2.2.2.2.2.2 < x.1.length /\ SlIs insE 136 x.1 x.2.1 x.2.2.1 x.2.2.2.1 /\ zeroOff x.2.1 /\ l.length <= x.1.length /\ x.1.length <= l.length+(gr h+3) /\ OKc x.1)):=by
 have hgr:gr (h+1)=3 * gr h+5:=rfl
 refine Sp.runM Tryz.func135 rfl (mc h2 (mc h3 mn)) (A:=[(tb,.lit [.slice A l.length c,.map (some m),vI e0,vI e1,vI e2] 103 (0,0)),(m,.obj (smap kv))]) (Ts:=[T]) rfl λ w0=>?_
 refine RN.go 8 [] λ _=>RN.ct [0,1] [0] (jump_any tb m e0 e1 e2 kv l A c T _ hs hz ok hkv 19 (by omega) (by omega)) ?_
 rintro _ ⟨l1,A2,c3,T4,q5,q6⟩ ⟨rfl,hs7,hz8,hl9,ok10⟩
 dsimp only at hs7 hz8 hl9 ok10
 refine RN.go 6 [] λ _=>RN.df (g:=152) (args:=#[]) (cap:=#[vP q5 0,vP q6 0])<|RN.go 5 [] λ _=>RN.ct [2,3] [0] (c_statement2 tb m e0 e1 e2 kv l1 A2 c3 T4 _ hs7 hz8 ok10 hkv h x hx hN.up ih b2 b3 (ro_ap h2) (ro_ap h3) (by omega)) ?_
 rintro _ ⟨l11,A12,c13,T14⟩ ⟨hs15,hz16,hg17,hl18,ok19⟩
 dsimp only at hs15 hz16 hg17 hl18 ok19
 refine RN.go 5 [] λ _=>RN.ct [0,1] [0] (jump_any tb m e0 e1 e2 kv l11 A12 c13 T14 _ hs15 hz16 ok19 hkv 18 (by omega) (by omega)) ?_
 rintro _ ⟨l20,A21,c22,T23,q24,q25⟩ ⟨rfl,hs26,hz27,hl28,ok29⟩
 dsimp only at hs26 hz27 hl28 ok29
 refine RN.go 3 [] λ _=>RN.lv ?_
 refine LV.df (enters_of Tryz.func152 (by kernel_rfl) rfl) [] [0] (jset_any tb m q5 q6 c22 l.length e0 e1 e2 l20 A21 T23 _ hs26 hz27 (by omega) ok29 (in_ap 4) (in_ap 5) (in_ap 2)) ?_
 rintro _ ⟨l30,T31⟩ ⟨hs32,hl33,ok34⟩
 dsimp only at hs32 hl33 ok34
 refine LV.bv 2 (congrArg (λ v_=>(.lit [.slice A21 v_ c22,.map (some m),vI e0,vI e1,vI e2] 103 (0,0):Blk)) hl33.symm) ?_
 refine LV.ret [] [0,1,2,3] [0] (v:=.func (.func 152) #[] #[vP q24 0,vP q25 0]) (H':=(ap [(q24,.lit [vP tb 0] 132 (0,0)),(q25,.lit [vI (l11.length:Int)] 3 (0,0)),(tb,.lit [.slice A21 l30.length c22,.map (some m),vI e0,vI e1,vI e2] 103 (0,0)),(m,.obj (smap kv))] [T31])) ?_
 exact ⟨(l30,A21,c22,T31,q24,q25,l11.length),rfl,rfl,(by dsimp only;omega),hs32,hz27,(by dsimp only;omega),(by dsimp only;omega),ok34⟩
theorem choice_st (tb m:Nat) (e0 e1 e2:Int) (kv:List (ByteArray × Value)) (l:List Ins) (A:Option Addr) (c:Nat) (T F:HL) (hs:SlIs insE 136 l A c T) (hz:zeroOff A) (ok:OKc l) (hkv:AllInt kv) (h:Nat) (x:Nd) (hx:Ht (h+1) x) (hN:NdIn F x) (ih:TrC h) (b2 b3:Nat) (h2:(b2,.lit [vP tb 0] 132 (0,0)) ∈ F) (h3:(b3,.lit [vI x.k,vI x.n,.string x.s,.slice x.A x.kids.length x.c] 70 (0,0)) ∈ F) (hb:l.length+(3 * gr h+5) <= 100000000):Sp Tryz.prog 93 #[vP tb 0,.func (.func 101) #[] #[vP b2 0,vP b3 0],.func (.func 102) #[] #[vP b2 0,vP b3 0],.func (.func 103) #[] #[vP b2 0,vP b3 0]] (ap [(tb,.lit [.slice A l.length c,.map (some m),vI e0,vI e1,vI e2] 103 (0,0)),(m,.obj (smap kv))] [T]) F (TrR tb m e0 e1 e2 kv l (3 * gr h+5)):=by
 have hgr:gr (h+1)=3 * gr h+5:=rfl
 refine Sp.runM Tryz.func93 rfl (mc h2 (mc h3 mn)) (A:=[(tb,.lit [.slice A l.length c,.map (some m),vI e0,vI e1,vI e2] 103 (0,0)),(m,.obj (smap kv))]) (Ts:=[T]) rfl λ w0=>?_
 refine RN.go 3 [] λ _=>RN.ct [0,1] [0] (c_statement1 tb m e0 e1 e2 kv l A c T _ hs hz ok hkv h x hx hN.up ih b2 b3 (ro_ap h2) (ro_ap h3) (by omega)) ?_
 rintro _ ⟨l1,A2,c3,T4⟩ ⟨hs5,hz6,hg7,hl8,ok9⟩
 dsimp only at hs5 hz6 hg7 hl8 ok9
 refine RN.go 6 [] λ _=>RN.ct [0,1] [0] (first_st tb m e0 e1 e2 kv l1 A2 c3 T4 _ hs5 hz6 ok9 hkv h x hx hN.up ih b2 b3 (ro_ap h2) (ro_ap h3) (by omega)) ?_
 rintro _ ⟨l10,A11,c12,T13,q14,q15,k16⟩ ⟨rfl,hk17,hs18,hz19,hg20,hl21,ok22⟩
 dsimp only at hk17 hs18 hz19 hg20 hl21 ok22
 refine RN.df (g:=152) (args:=#[]) (cap:=#[vP q14 0,vP q15 0])<|RN.go 4 [] λ _=>RN.ct [2,3] [0] (c_statement3 tb m e0 e1 e2 kv l10 A11 c12 T13 _ hs18 hz19 ok22 hkv h x hx hN.up ih b2 b3 (ro_ap h2) (ro_ap h3) (by omega)) ?_
 rintro _ ⟨l23,A24,c25,T26⟩ ⟨hs27,hz28,hg29,hl30,ok31⟩
 dsimp only at hs27 hz28 hg29 hl30 ok31
 refine RN.go 1 [] λ _=>RN.lv ?_
 refine LV.df (enters_of Tryz.func152 (by kernel_rfl) rfl) [] [0] (jset_any tb m q14 q15 c25 k16 e0 e1 e2 l23 A24 T26 _ hs27 hz28 (by omega) ok31 (in_ap 2) (in_ap 3) (in_ap 0)) ?_
 rintro _ ⟨l32,T33⟩ ⟨hs34,hl35,ok36⟩
 dsimp only at hs34 hl35 ok36
 refine LV.bv 0 (congrArg (λ v_=>(.lit [.slice A24 v_ c25,.map (some m),vI e0,vI e1,vI e2] 103 (0,0):Blk)) hl35.symm) ?_
 refine LV.ret [] [0,1] [0] (v:=.tuple #[]) (H':=(ap [(tb,.lit [.slice A24 l32.length c25,.map (some m),vI e0,vI e1,vI e2] 103 (0,0)),(m,.obj (smap kv))] [T33])) ?_
 exact ⟨(l32,A24,c25,T33),rfl,hs34,hz28,(by dsimp only;omega),(by dsimp only;omega),ok36⟩
theorem loop_any (tb m:Nat) (e0 e1 e2:Int) (kv:List (ByteArray × Value)) (l:List Ins) (A:Option Addr) (c:Nat) (T F:HL) (hs:SlIs insE 136 l A c T) (hz:zeroOff A) (ok:OKc l) (hkv:AllInt kv) (h:Nat) (x:Nd) (hx:Ht (h+1) x) (hN:NdIn F x) (ih:TrC h) (hb:l.length+(gr (h+1)) <= 100000000):Sp Tryz.prog 104 #[vP tb 0,.agg #[vI x.k,vI x.n,.string x.s,.slice x.A x.kids.length x.c]] (ap [(tb,.lit [.slice A l.length c,.map (some m),vI e0,vI e1,vI e2] 103 (0,0)),(m,.obj (smap kv))] [T]) F (TrR tb m e0 e1 e2 kv l (gr (h+1))):=by
 have hgr:gr (h+1)=3 * gr h+5:=rfl
 refine Sp.runM Tryz.func104 rfl mn (A:=[(tb,.lit [.slice A l.length c,.map (some m),vI e0,vI e1,vI e2] 103 (0,0)),(m,.obj (smap kv))]) (Ts:=[T]) rfl λ w0=>?_
 refine RN.go 19 [.own 1,.own 0,.own 0,.own 0,.own 0] λ n1=>RN.ct [1,2] [0] (kid_any tb m e0 e1 e2 kv l A c T _ hs hz ok hkv h x hx hN.up ih 0 0 rfl (by omega)) ?_
 rintro _ ⟨l2,A3,c4,T5⟩ ⟨hs6,hz7,hg8,hl9,ok10⟩
 dsimp only at hs6 hz7 hg8 hl9 ok10
 refine RN.go 5 [] λ _=>RN.ct [0,1] [0] (jump_any tb m e0 e1 e2 kv l2 A3 c4 T5 _ hs6 hz7 ok10 hkv 19 (by omega) (by omega)) ?_
 rintro _ ⟨l11,A12,c13,T14,q15,q16⟩ ⟨rfl,hs17,hz18,hl19,ok20⟩
 dsimp only at hs17 hz18 hl19 ok20
 refine RN.df (g:=152) (args:=#[]) (cap:=#[vP q15 0,vP q16 0])<|RN.go 6 [.own 4,.own 4,.own 4,.own 4] λ _=>RN.ct [2,3] [0] (kid_any tb m e0 e1 e2 kv l11 A12 c13 T14 _ hs17 hz18 ok20 hkv h x hx hN.up ih 1 1 rfl (by omega)) ?_
 rintro _ ⟨l21,A22,c23,T24⟩ ⟨hs25,hz26,hg27,hl28,ok29⟩
 dsimp only at hs25 hz26 hg27 hl28 ok29
 refine RN.go 5 [] λ _=>RN.ct [0,1] [0] (emit_any tb m e0 e1 e2 kv l21 A22 c23 T24 _ hs25 hz26 ok29 hkv 18 (l.length:Int) (by omega) (by intro h;omega) (by omega)) ?_
 rintro _ ⟨l30,A31,c32,T33⟩ ⟨rfl,hs34,hz35,hl36,ok37⟩
 dsimp only at hs34 hz35 hl36 ok37
 refine RN.go 1 [] λ _=>RN.lv ?_
 refine LV.df (enters_of Tryz.func152 (by kernel_rfl) rfl) [] [0] (jset_any tb m q15 q16 c32 l2.length e0 e1 e2 l30 A31 T33 _ hs34 hz35 (by omega) ok37 (in_ap 2) (in_ap 3) (in_ap 0)) ?_
 rintro _ ⟨l38,T39⟩ ⟨hs40,hl41,ok42⟩
 dsimp only at hs40 hl41 ok42
 refine LV.bv 0 (congrArg (λ v_=>(.lit [.slice A31 v_ c32,.map (some m),vI e0,vI e1,vI e2] 103 (0,0):Blk)) hl41.symm) ?_
 refine LV.ret [] [0,1] [0] (v:=.tuple #[]) (H':=(ap [(tb,.lit [.slice A31 l38.length c32,.map (some m),vI e0,vI e1,vI e2] 103 (0,0)),(m,.obj (smap kv))] [T39])) ?_
 exact ⟨(l38,A31,c32,T39),rfl,hs40,hz35,(by dsimp only;omega),(by dsimp only;omega),ok42⟩
end Go.Proofs.YtkhifpbokgabbaaGreatDoor
