import Derived.Test.YtlblnmmfphiobaaGreatPNA17
set_option maxRecDepth 100000
set_option maxHeartbeats 8000000
set_option linter.unusedVariables false
set_option linter.unusedSimpArgs false
namespace Go.Proofs.YtlblnmmfphiobaaGreat
section
open Go Go.RowKit Go.Proofs Pl
def GK (P:Bool->Prop) (e:Ending):Prop:=∃ r,e=.returned (.bool r)/\P r
def Rg (e:Ending):Prop:=∃ n:Int,e=.returned (.int .i64 n)
theorem Aj {w:World}:Below w.heap.size w w:=Below.refl _ _
theorem LF {w:World} {v:Value} {xs:List Nat} (h:Nl w v xs):
 Calls Tryz.prog 156 #[v] w fun e w'=>∃ r,e=.returned (.bool r)/\Yg w w':=by
 obtain ⟨A,c,rfl,h1,h2,h3,h4⟩:=h;obtain ⟨n,hn⟩:∃ n,xs.length=n:=⟨_,rfl⟩;rw [hn] at h2 ⊢;have hbig:n<=9223372036854775807:=by unfold maxLen at h3;omega
 by_cases h0:n=0
 · subst h0;have e0:(((0:Nat):Int)==0)=true:=rfl;clear h1 h2 h3 h4 hn;go_enter Tryz.func156,Tryz.ntmps156;go_wp2_with fail;go_ret;exact ⟨_,rfl,Aj⟩
 · have e0:((n:Int)==0)=false:=beq_eq_false_iff_ne.2 Yo;by_cases h5:n=1
   · have e1:((n:Int)==1)=true:=by rw [h5];rfl
     obtain ⟨g,o,rfl,hc⟩:=h1.at_ (j:=0) Yo;have hm:=hc 0 _ (AD Yo);obtain ⟨d,hd⟩:∃ d,d=atD xs 0:=⟨_,rfl⟩;rw [<- hd,UE] at hm;subst h5;clear h1 h2 h3 h4 hn h0 hd hc;go_enter Tryz.func156,Tryz.ntmps156;go_wp2_with fail;go_ret;exact ⟨_,rfl,Aj⟩
   · have e1:((n:Int)==1)=false:=beq_eq_false_iff_ne.2 Yo;clear h1 h2 h3 h4 hn h0 h5;go_enter Tryz.func156,Tryz.ntmps156;go_wp2_with fail;go_ret;exact ⟨_,rfl,Aj⟩
theorem E0 {w:World} {a:Value} {b:Bool} {xs ds:List Nat} (ha:Ql w a b xs ds) (hl:xs.length+ds.length<=4611686018427387903):
 Calls Tryz.prog 34 #[a] w fun e w'=>e=.returned (.int .i64 ((xs.length+ds.length:Nat):Int))/\Yg w w':=by
 obtain ⟨A,n,c,A2,n2,c2,rfl,e1,e2,-⟩:=ha.parts;obtain ⟨k,hk⟩:∃ k:Nat,k=xs.length+ds.length:=⟨_,rfl⟩;rw [<- hk];have hw:IntKind.i64.wrap ((n:Int)+(n2:Int))=(k:Int):=by rw [show (n:Int)+(n2:Int)=(k:Int) by omega];exact IntWalk.i64_in _ Yo
 clear ha e1 e2 hk hl;go_enter Tryz.func34,Tryz.ntmps34;go_wp2_with fail;go_ret;exact ⟨rfl,Ya w _⟩
theorem Fv.nl {w:World} {b:Bool} {s d:Value} {f:Fx} (h:Fv w (.agg #[.bool b,s,d]) f):Nl w s f.xs/\Nl w d f.ds:=by
 obtain ⟨s',d',e,h1,h2⟩:=h;injection e with e;injection e with e
 simp only [List.cons.injEq,and_true] at e;obtain ⟨-,rfl,rfl⟩:=e;exact ⟨h1,h2⟩
theorem DL {w:World} {v:Value} {fs:List Fx} (h:Rx w v fs) (hs:∀ f∈fs,f.xs.length<=2305843009213693951/\f.ds.length<=2305843009213693951):
 Calls Tryz.prog 66 #[v] w fun e w'=>Rg e/\Yg w w':=by
 obtain ⟨A,cap,rfl,q1,q2⟩:=h.shape;obtain ⟨n,hn⟩:∃ n,fs.length=n:=⟨_,rfl⟩;rw [hn] at h q1 ⊢;have hbig:n<=9223372036854775807:=by unfold maxLen at q2;omega
 have HS:=Yh3 h hs hn;clear h hs hn q1 q2;go_enter Tryz.func66,Tryz.ntmps66;go_wp2_with fail;go_loopw [3,4] (fun z1 z2 wr=>∃ (k:Nat) (m:Int),z1=.int .i64 m/\z2=.int .i64 (k:Int)/\k<=n/\Hid (Yg w wr)) (fun _ z2 _=>n - (intOf z2).toNat)
 case atStart=>exact ⟨0,0,rfl,rfl,Un _,Aj⟩
 case round=>
  obtain ⟨k,m,rfl,rfl,hk,H⟩:=hrel;by_cases hlt:k<n
  · skip;have hkx:k<fs.length:=by rw [HS.q2];exact hlt
    obtain ⟨f,hf⟩:∃ f,fs[k]?=some f:=⟨_,List.getElem?_eq_getElem hkx⟩;obtain ⟨g,off,cap',x,e,hgl,hFv,c0,c1,c2⟩:=HS.p0.at_ hf;injection e with e1 e2 e3
    subst e1;have hfs:=HS.p1 f (TO hf);have HC:Hid (∀ W,Yg w W->W.cell? ⟨g,off+k*3,none⟩=some (.bool x.b)/\W.cell? ⟨g,off+k*3+1,none⟩=some (.slice x.A x.l x.k)/\W.cell? ⟨g,off+k*3+2,none⟩=some (.slice x.B x.m x.d)):=fun W hb=>⟨(hb.cell (p:=⟨g,_,none⟩) hgl).trans c0,(hb.cell (p:=⟨g,_,none⟩) hgl).trans c1,(hb.cell (p:=⟨g,_,none⟩) hgl).trans c2⟩;have HX:=Yh3 hFv hFv.nl hfs;have dk:(k:Int)<(n:Int):=Yo;clear hf hkx e2 e3 hFv hfs cap' c0 c1 c2;obtain ⟨c0,c1,c2⟩:=HC.out _ H.out;go_wp2_with fail;refine (LF (HX.p1.1.keep H.out)).mono ?_;rintro e w4 ⟨r1,rfl,hb⟩;have H4:=Lib.hid (Yb H.out hb);clear hb c0 c1 c2 H;obtain ⟨c0,c1,c2⟩:=HC.out _ H4.out
    cases r1 with
    | false=>
     go_wp2_with fail;refine (E0 (a:=x.num) (HX.p0.keep H4.out) (by have:=HX.q2;omega)).mono ?_;rintro e w7 ⟨rfl,hb⟩;have H7:=Lib.hid (Yb H4.out hb);clear hb;go_wp2_with fail
     case roundEnd=>exact ⟨⟨k+1,_,rfl,by go_num,Yo,H7.out⟩,by simp [intOf];omega⟩
    | true=>
     go_wp2_with fail;refine (LF (HX.p1.2.keep H4.out)).mono ?_;rintro e w5 ⟨r2,rfl,hb⟩;have H5:=Lib.hid (Yb H4.out hb);clear hb c0 c1 c2 H4;obtain ⟨c0,c1,c2⟩:=HC.out _ H5.out
     cases r2 with
     | false=>
      go_wp2_with fail;refine (E0 (a:=x.num) (HX.p0.keep H5.out) (by have:=HX.q2;omega)).mono ?_;rintro e w7 ⟨rfl,hb⟩;have H7:=Lib.hid (Yb H5.out hb);clear hb;go_wp2_with fail
      case roundEnd=>exact ⟨⟨k+1,_,rfl,by go_num,Yo,H7.out⟩,by simp [intOf];omega⟩
     | true=>
      go_wp2_with fail
      case roundEnd=>exact ⟨⟨k+1,_,rfl,by go_num,Yo,H5.out⟩,by simp [intOf];omega⟩
  · have dk:¬ (k:Int)<(n:Int):=by omega
    go_wp2_with fail;go_ret;exact ⟨⟨_,rfl⟩,H.out⟩
theorem Ie {w:World} {v:Value} {ts:List (Int × Fx)} (h:Tx w v ts) (hl:ts.length<=1048576) (hs:∀ t∈ts,t.2.xs.length<=2305843009213693951/\t.2.ds.length<=2305843009213693951):
 Calls Tryz.prog 67 #[v] w fun e w'=>Rg e/\Yg w w':=by
 obtain ⟨A,cap,rfl,q1,q2⟩:=h.shape;obtain ⟨n,hn⟩:∃ n,ts.length=n:=⟨_,rfl⟩;rw [hn] at h hl ⊢;have HS:=Yh3 h hs hn;clear h hs hn q1 q2;go_enter Tryz.func67,Tryz.ntmps67;go_wp2_with fail;go_loopw [3,4] (fun z1 z2 wr=>∃ (k:Nat) (u1:Value) (xs:List Rm),u1=z1/\z2=.int .i64 (k:Int)/\k<=n/\Hid (Rr wr w.heap.size 36 3 Rm.cs u1 xs/\Bd (fun x f=>Fv w x.num f) xs ((ts.map Prod.snd).take k)/\Yg w wr)) (fun _ z2 _=>n - (intOf z2).toNat)
 case atStart=>exact ⟨0,_,[],rfl,rfl,Un _,Rr.nil _ _ _ _ _,by simpa using Bd.nil,Aj⟩
 case round=>
  obtain ⟨k,u1,xs,rfl,rfl,hk,H⟩:=hrel;by_cases hlt:k<n
  · skip;have hkx:k<ts.length:=by rw [HS.q2];exact hlt
    obtain ⟨t,ht⟩:∃ t,ts[k]?=some t:=⟨_,List.getElem?_eq_getElem hkx⟩;obtain ⟨g,off,cap',x,e,hgl,-,-,hFv,-,c1,c2,c3⟩:=HS.p0.at_ ht;injection e with e1 e2 e3
    subst e1;have hfs:=HS.p1 t (TO ht);have HC:Hid (∀ W,Yg w W->W.cell? ⟨g,off+k*4+1,none⟩=some (.bool x.b)/\W.cell? ⟨g,off+k*4+2,none⟩=some (.slice x.A x.l x.k)/\W.cell? ⟨g,off+k*4+3,none⟩=some (.slice x.B x.m x.d)):=fun W hb=>⟨(hb.cell (p:=⟨g,_,none⟩) hgl).trans c1,(hb.cell (p:=⟨g,_,none⟩) hgl).trans c2,(hb.cell (p:=⟨g,_,none⟩) hgl).trans c3⟩;have hnx:=CZ (l:=ts.map Prod.snd) (k:=k) (x:=t.2) (by rw [List.getElem?_map,ht];rfl);have HX:=Yh3 hFv hnx (show xs.length<=1048576 by rw [H.p1.1,TU];omega);have dk:(k:Int)<(n:Int):=Yo;clear ht hkx e2 e3 hFv hfs cap' c1 c2 c3 hnx;obtain ⟨c1,c2,c3⟩:=HC.out _ H.q2;go_wp2_with (at_builtin;refine IA (f:=Rm.cs) (x:=⟨x.b,x.A,x.l,x.k,x.B,x.m,x.d⟩) Tryz.underlying24 G3 ⟨Yd,rfl,Yd⟩ Rm.len Rm.one rfl (.tmp 11) (.tmp 17) rfl rfl rfl (H.p0.keep (Ya _ _)) (Bl.new wr _ _) HX.q2 (Yb H.q2 (Ya _ _)) ?_;intro u2 w2 k1 k2 k3 k4);have K:=Yh3 k1 (H.p1.app (y:=t.2) (x:=Rm.mk x.b x.A x.l x.k x.B x.m x.d) HX.p0) k2;clear k1 k2 k3 k4;go_wp2_with fail
    case roundEnd=>exact ⟨⟨k+1,_,_,rfl,by go_num,Yo,K.p0,by rw [HX.p1];exact K.p1,K.q2⟩,by simp [intOf];omega⟩
  have hrx:Rx wr u1 (ts.map Prod.snd):=⟨xs,H.p0.rv,by
   have h:=H.p1;rw [Ud (by rw [Uz,HS.q2];omega)] at h;exact h.imp fun x f hf=>hf.keep H.q2⟩
  have HR:=Lib.hid hrx;have dk:¬ (k:Int)<(n:Int):=Yo;clear hrx;go_wp2_with fail;refine (DL HR.out (fun f hf=>by obtain ⟨t,ht,rfl⟩:=UP.1 hf;exact HS.p1 t ht)).mono ?_;rintro e w4 ⟨⟨m,rfl⟩,hb⟩;have H4:=Lib.hid (Yb H.q2 hb);clear hb;go_wp2_with fail;go_ret;exact ⟨⟨_,rfl⟩,H4.out⟩
theorem QA {w:World} {v:Value} {ts:List (Int × Fx)} (h:Tx w v ts) (hs:∀ t∈ts,t.2.xs.length<=2305843009213693951/\t.2.ds.length<=2305843009213693951):
 Calls Tryz.prog 61 #[v] w fun e w'=>GK (fun r=>r=false->ts.length<=30/\∀ t∈ts,t.2.xs.length+t.2.ds.length<=6) e/\Yg w w':=by
 obtain ⟨A,cap,rfl,q1,q2⟩:=h.shape;obtain ⟨n,hn⟩:∃ n,ts.length=n:=⟨_,rfl⟩;rw [hn] at h q1 ⊢;have hbig:n<=9223372036854775807:=by unfold maxLen at q2;omega
 have HS:=Yh3 h hs hn;clear h hs hn q1 q2;go_enter Tryz.func61,Tryz.ntmps61;go_wp2_with fail;go_loopw [3] (fun z2 wr=>∃ (k:Nat),z2=.int .i64 (k:Int)/\k<=n/\Hid ((∀ t∈ts.take k,t.2.xs.length+t.2.ds.length<=6)/\Yg w wr)) (fun z2 _=>n - (intOf z2).toNat)
 case atStart=>exact ⟨0,rfl,Un _,by simp,Aj⟩
 case round=>
  obtain ⟨k,rfl,hk,H⟩:=hrel;by_cases hlt:k<n
  · skip;have hkx:k<ts.length:=by rw [HS.q2];exact hlt
    obtain ⟨t,ht⟩:∃ t,ts[k]?=some t:=⟨_,List.getElem?_eq_getElem hkx⟩;obtain ⟨g,off,cap',x,e,hgl,-,-,hFv,-,c1,c2,c3⟩:=HS.p0.at_ ht;injection e with e1 e2 e3
    subst e1;have hfs:=HS.p1 t (TO ht);have HC:Hid (∀ W,Yg w W->W.cell? ⟨g,off+k*4+1,none⟩=some (.bool x.b)/\W.cell? ⟨g,off+k*4+2,none⟩=some (.slice x.A x.l x.k)/\W.cell? ⟨g,off+k*4+3,none⟩=some (.slice x.B x.m x.d)):=fun W hb=>⟨(hb.cell (p:=⟨g,_,none⟩) hgl).trans c1,(hb.cell (p:=⟨g,_,none⟩) hgl).trans c2,(hb.cell (p:=⟨g,_,none⟩) hgl).trans c3⟩;have hnx:=CZ ht;have HX:=Yh3 hFv hnx hfs;obtain ⟨s,hse⟩:∃ s,s=t.2.xs.length+t.2.ds.length:=⟨_,rfl⟩;have HSE:=Lib.hid hse;have dk:(k:Int)<(n:Int):=Yo;clear ht hkx e2 e3 hFv hfs cap' c1 c2 c3 hnx hse;obtain ⟨c1,c2,c3⟩:=HC.out _ H.q1;go_wp2_with fail;refine (E0 (a:=x.num) (HX.p0.keep H.q1) (by have:=HX.q2;omega)).mono ?_;rintro e w4 ⟨rfl,hb⟩;rw [show t.2.xs.length+t.2.ds.length=s from HSE.out.symm];have H4:=Yh2 H.p0 (Yb H.q1 hb);clear hb H c1 c2 c3;by_cases h6:s<=6
    · have d6:¬ (6:Int)<(s:Int):=by omega
      go_wp2_with fail
      case roundEnd=>
       refine ⟨⟨k+1,by go_num,Yo,fun t ht=>?_,H4.q1⟩,by simp [intOf];omega⟩;rw [HX.p1] at ht
       rcases Uw.1 ht with ht | ht
       · exact H4.p0 t ht
       · rw [Uj.1 ht];rw [HSE.out] at h6;exact h6
    · have d6:(6:Int)<(s:Int):=by omega
      go_wp2_with fail;go_ret;exact ⟨⟨true,rfl,by simp⟩,H4.q1⟩
  have dk:¬ (k:Int)<(n:Int):=Yo
  have hall:Hid (∀ t∈ts,t.2.xs.length+t.2.ds.length<=6):=by
   have h:=H.p0;rw [Ud (by rw [HS.q2];omega)] at h;exact h
  by_cases h30:n<=30
  · have d3:¬ (30:Int)<(n:Int):=by omega
    go_wp2_with fail;refine (Ie (HS.p0.keep H.q1) (by rw [HS.q2];omega) HS.p1).mono ?_;rintro e w4 ⟨⟨m,rfl⟩,hb⟩;have H4:=Lib.hid (Yb H.q1 hb);clear hb;go_wp2_with fail;go_ret;exact ⟨⟨_,rfl,fun _=>⟨Yo,hall.out⟩⟩,H4.out⟩
  · have d3:(30:Int)<(n:Int):=by omega
    go_wp2_with fail;go_ret;exact ⟨⟨true,rfl,by simp⟩,H.q1⟩
theorem EC {w:World} {v:Value} {ts:List (Fx)} (h:Rx w v ts) (hs:∀ t∈ts,t.xs.length<=2305843009213693951/\t.ds.length<=2305843009213693951):
 Calls Tryz.prog 21 #[v] w fun e w'=>GK (fun r=>r=false->ts.length<=30/\∀ t∈ts,t.xs.length+t.ds.length<=6) e/\Yg w w':=by
 obtain ⟨A,cap,rfl,q1,q2⟩:=h.shape;obtain ⟨n,hn⟩:∃ n,ts.length=n:=⟨_,rfl⟩;rw [hn] at h q1 ⊢;have hbig:n<=9223372036854775807:=by unfold maxLen at q2;omega
 have HS:=Yh3 h hs hn;clear h hs hn q1 q2;go_enter Tryz.func21,Tryz.ntmps21;go_wp2_with fail;go_loopw [3] (fun z2 wr=>∃ (k:Nat),z2=.int .i64 (k:Int)/\k<=n/\Hid ((∀ t∈ts.take k,t.xs.length+t.ds.length<=6)/\Yg w wr)) (fun z2 _=>n - (intOf z2).toNat)
 case atStart=>exact ⟨0,rfl,Un _,by simp,Aj⟩
 case round=>
  obtain ⟨k,rfl,hk,H⟩:=hrel;by_cases hlt:k<n
  · skip;have hkx:k<ts.length:=by rw [HS.q2];exact hlt
    obtain ⟨t,ht⟩:∃ t,ts[k]?=some t:=⟨_,List.getElem?_eq_getElem hkx⟩;obtain ⟨g,off,cap',x,e,hgl,hFv,c0,c1,c2⟩:=HS.p0.at_ ht;injection e with e1 e2 e3
    subst e1;have hfs:=HS.p1 t (TO ht);have HC:Hid (∀ W,Yg w W->W.cell? ⟨g,off+k*3,none⟩=some (.bool x.b)/\W.cell? ⟨g,off+k*3+1,none⟩=some (.slice x.A x.l x.k)/\W.cell? ⟨g,off+k*3+2,none⟩=some (.slice x.B x.m x.d)):=fun W hb=>⟨(hb.cell (p:=⟨g,_,none⟩) hgl).trans c0,(hb.cell (p:=⟨g,_,none⟩) hgl).trans c1,(hb.cell (p:=⟨g,_,none⟩) hgl).trans c2⟩;have hnx:=CZ ht;have HX:=Yh3 hFv hnx hfs;obtain ⟨s,hse⟩:∃ s,s=t.xs.length+t.ds.length:=⟨_,rfl⟩;have HSE:=Lib.hid hse;have dk:(k:Int)<(n:Int):=Yo;clear ht hkx e2 e3 hFv hfs cap' c0 c1 c2 hnx hse;obtain ⟨c0,c1,c2⟩:=HC.out _ H.q1;go_wp2_with fail;refine (E0 (a:=x.num) (HX.p0.keep H.q1) (by have:=HX.q2;omega)).mono ?_;rintro e w4 ⟨rfl,hb⟩;rw [show t.xs.length+t.ds.length=s from HSE.out.symm];have H4:=Yh2 H.p0 (Yb H.q1 hb);clear hb H c0 c1 c2;by_cases h6:s<=6
    · have d6:¬ (6:Int)<(s:Int):=by omega
      go_wp2_with fail
      case roundEnd=>
       refine ⟨⟨k+1,by go_num,Yo,fun t ht=>?_,H4.q1⟩,by simp [intOf];omega⟩;rw [HX.p1] at ht
       rcases Uw.1 ht with ht | ht
       · exact H4.p0 t ht
       · rw [Uj.1 ht];rw [HSE.out] at h6;exact h6
    · have d6:(6:Int)<(s:Int):=by omega
      go_wp2_with fail;go_ret;exact ⟨⟨true,rfl,by simp⟩,H4.q1⟩
  have dk:¬ (k:Int)<(n:Int):=Yo
  have hall:Hid (∀ t∈ts,t.xs.length+t.ds.length<=6):=by
   have h:=H.p0;rw [Ud (by rw [HS.q2];omega)] at h;exact h
  by_cases h30:n<=30
  · have d3:¬ (30:Int)<(n:Int):=by omega
    go_wp2_with fail;refine (DL (HS.p0.keep H.q1) HS.p1).mono ?_;rintro e w4 ⟨⟨m,rfl⟩,hb⟩;have H4:=Lib.hid (Yb H.q1 hb);clear hb;go_wp2_with fail;go_ret;exact ⟨⟨_,rfl,fun _=>⟨Yo,hall.out⟩⟩,H4.out⟩
  · have d3:(30:Int)<(n:Int):=by omega
    go_wp2_with fail;go_ret;exact ⟨⟨true,rfl,by simp⟩,H.q1⟩
section
variable {T e:TypeId} {w w' W:World} {g j B:Nat} {us:List Value} {x:Value}
theorem Bl.lt (h:Bl w T g us):g<w.heap.size:=CK h
theorem Bl.ld (h:Bl w T g us) (j:Nat) {u:Value} (hj:us[j]?=some u):w.cell? ⟨g,j,none⟩=some u:=by
 have h':w.heap[g]?=_:=h;simp [World.cell?,h',hj]
theorem Bl.fr (h:Bl w T g us) (j:Nat):w.frozen? ⟨g,j,none⟩=false:=by
 have h':w.heap[g]?=_:=h;simp [World.frozen?,h']
theorem Bl.alloc (h:Bl w T g us) (o:Obj):Bl (w.alloc o) T g us:=(Below.heap_alloc w o g h.lt).trans h
theorem Bl.other (h:Bl w T g us) {p:Addr} (hp:p.block≠g) (u:Value):Bl (w.setCell p u) T g us:=(Below.heap_setCell w p u g (fun e=>hp e.symm)).trans h
theorem Bl.set (h:Bl w T g us) (j:Nat) (x:Value):Bl (w.setCell ⟨g,j,none⟩ x) T g (us.set j x):=by
 obtain ⟨hlt,hk⟩:=Array.getElem?_eq_some_iff.1 h;show (w.heap.modify g _)[g]?=_;rw [Array.getElem?_eq_getElem (by rw [VT];exact hlt),Vo,hk,<- US];rfl
theorem Bl.keepT1 (h:Bl w T g us) (hne:T≠e) (j:Nat) (x:Value):Ak e w (w.setCell ⟨g,j,none⟩ x):=Ak.setCell h hne rfl x
theorem Bl.new1 (w:World) (o:Obj) (T:TypeId) (us:List Value):Bl ((w.alloc o).alloc (.cells us.toArray T)) T (w.heap.size+1) us:=by
 have h:(w.alloc o).heap.size=w.heap.size+1:=World.size_alloc w o;rw [<- h];exact World.alloc_heap_new _ _
theorem AP {P:Program} {fn:Func} {R:Ending->World->Prop} {act:Act} {V:Value} (X:Bl w T g us)
 (hr:∀ W:World,(∀ (j:Nat) (u:Value),us[j]?=some u->W.cell? ⟨g,j,none⟩=some u)->(results fn act.tmps).run P W=.ok V W) (hd:act.defers=[])
 (hR:R (.returned V) w):bodyPost P fn R .ret act w:=
 bodyPost_ret (hr _ fun j u hj=>X.ld j hj) hd hR
end
section
variable {w w' w0 w1:World} {v:Value} {ts:List (Int × Fx)} {fs:List Fx} {f:Fx}
theorem Tw.keepT (h:Tw w0 w v ts) (k1:Ak 63 w w') (k2:Ak 146 w w') (hb:Below w0.heap.size w0 w'):Tw w0 w' v ts:=by
 obtain ⟨xs,h1,h2,h3⟩:=h;exact ⟨xs,h1.keepT k1,h2.imp fun x f hf=>⟨hf.1,hf.2.1,hf.2.2.keepT k2 hb⟩,hb⟩
end
theorem Ak.b3 {T:TypeId} {w w':World} (k:Ak T w w') {g:Nat} {a b c:Value} (h:B3 T w g a b c):B3 T w' g a b c:=(k g _ _ h).trans h
theorem Ak.bl {T:TypeId} {w w':World} (k:Ak T w w') {g:Nat} {us:List Value} (h:Bl w T g us):Bl w' T g us:=(k g _ _ h).trans h
structure Sl where
 A:Option Addr
 l:Nat
 k:Nat
def Sl.v (x:Sl):Value:=.slice x.A x.l x.k
def Sl.cs (x:Sl):List Value:=[.slice x.A x.l x.k]
theorem Sl.len (x:Sl):x.cs.length=1:=rfl
theorem Sl.one (x:Sl):∀ u∈x.cs,u.oneCell'=true:=fun u hu=>by
 simp only [Sl.cs,Ue,Vj,or_false] at hu;rw [hu];rfl
def bcs (b:Bool):List Value:=[.bool b]
theorem Ge (x:Bool):(bcs x).length=1:=rfl
theorem Mc (x:Bool):∀ u∈bcs x,u.oneCell'=true:=fun u hu=>by
 simp only [bcs,Ue,Vj,or_false] at hu;rw [hu];rfl
def Gx (w:World) (v:Value) (cs:List (List (Int × Fx))):Prop:=∃ xs,Rv w Sl.cs v xs/\Bd (fun x ts=>Tx w x.v ts) xs cs
def Gw (w0 w:World) (v:Value) (cs:List (List (Int × Fx))):Prop:=∃ xs,Rr w w0.heap.size 54 1 Sl.cs v xs/\Bd (fun x ts=>Tw w0 w x.v ts) xs cs/\Yg w0 w
def Ex (w:World) (v:Value) (bs:List Bool):Prop:=Rv w bcs v bs
def Ew (w0 w:World) (v:Value) (bs:List Bool):Prop:=Rr w w0.heap.size 4 1 bcs v bs
structure Um where
 c:Int
 u:Bool
 b:Bool
 A:Option Addr
 l:Nat
 k:Nat
 B:Option Addr
 m:Nat
 d:Nat
def Um.cs (x:Um):List Value:=[.int .i64 x.c,.bool x.u,.bool x.b,.slice x.A x.l x.k,.slice x.B x.m x.d]
def Um.num (x:Um):Value:=.agg #[.bool x.b,.slice x.A x.l x.k,.slice x.B x.m x.d]
theorem Um.len (x:Um):x.cs.length=5:=rfl
theorem Um.one (x:Um):∀ u∈x.cs,u.oneCell'=true:=fun u hu=>by
 simp only [Um.cs,Ue,Vj,or_false] at hu
 rcases hu with rfl | rfl | rfl | rfl | rfl<;>rfl
structure Ux where
 c:Int
 u:Bool
 f:Fx
def Uv (w:World) (v:Value) (us:List Ux):Prop:=∃ xs:List Um,Rv w Um.cs v xs/\Bd (fun x t=>x.c=t.c/\x.u=t.u/\Fv w x.num t.f) xs us
structure Cx where
 s:Int
 ts:List (Int × Fx)
 r:Fx
deriving DecidableEq
structure Lm where
 n:Int
 a:Sl
 b:Sl
 c:Sl
 d:Sl
 e:Sl
 f:Sl
def Lm.agg (x:Lm):Value:=.agg #[.int .i64 x.n,.slice x.a.A x.a.l x.a.k,.slice x.b.A x.b.l x.b.k,.slice x.c.A x.c.l x.c.k,.slice x.d.A x.d.l x.d.k,.slice x.e.A x.e.l x.e.k,.slice x.f.A x.f.l x.f.k]
structure LPx where
 n:Int
 cols:List (List (Int × Fx))
 hasLo:List Bool
 hasHi:List Bool
 lo:List Fx
 hi:List Fx
 cost:List Fx
def LPv (w:World) (v:Value) (l:LPx):Prop:=∃ x:Lm,v=x.agg/\x.n=l.n/\Gx w x.a.v l.cols/\Ex w x.b.v l.hasLo/\Ex w x.c.v l.hasHi/\Rx w x.d.v l.lo/\Rx w x.e.v l.hi/\Rx w x.f.v l.cost
section
variable {w w' w0 w1:World} {v:Value} {cs:List (List (Int × Fx))} {bs:List Bool} {us:List Ux} {u:Ux} {c:Cx} {ks:List Cx} {l:LPx} {i:Nat} {ts:List (Int × Fx)} {b:Bool}
theorem Gx.keep (h:Gx w v cs) (hb:Below w.heap.size w w'):Gx w' v cs:=by
 obtain ⟨xs,h1,h2⟩:=h;exact ⟨xs,h1.keep hb,h2.imp fun x f hf=>hf.keep hb⟩
theorem Ex.keep (h:Ex w v bs) (hb:Below w.heap.size w w'):Ex w' v bs:=Rv.keep h hb
theorem Uv.keep (h:Uv w v us) (hb:Below w.heap.size w w'):Uv w' v us:=by
 obtain ⟨xs,h1,h2⟩:=h;exact ⟨xs,h1.keep hb,h2.imp fun x f hf=>⟨hf.1,hf.2.1,hf.2.2.keep hb⟩⟩
theorem Gw.gx (h:Gw w0 w v cs):Gx w v cs:=by
 obtain ⟨xs,h1,h2,h3⟩:=h;exact ⟨xs,h1.rv,h2.imp fun x f hf=>hf.tx⟩
theorem Gw.keep (h:Gw w0 w v cs) (hb:Below w.heap.size w w'):Gw w0 w' v cs:=by
 obtain ⟨xs,h1,h2,h3⟩:=h;exact ⟨xs,h1.keep hb,h2.imp fun x f hf=>hf.keep hb,Yb h3 hb⟩
theorem Ew.ex (h:Ew w0 w v bs):Ex w v bs:=Rr.rv h
theorem Ew.keep (h:Ew w0 w v bs) (hb:Below w.heap.size w w'):Ew w0 w' v bs:=Rr.keep h hb
theorem LPv.keep (h:LPv w v l) (hb:Below w.heap.size w w'):LPv w' v l:=by
 obtain ⟨x,h1,h2,h3,h4,h5,h6,h7,h8⟩:=h;exact ⟨x,h1,h2,h3.keep hb,h4.keep hb,h5.keep hb,h6.keep hb,h7.keep hb,h8.keep hb⟩
theorem Gx.shape (h:Gx w v cs):∃ A cap,v=.slice A cs.length cap/\cs.length<=cap/\cap<=maxLen:=by
 obtain ⟨xs,⟨A,cap,e,h1,h2,-⟩,hz⟩:=h;exact ⟨A,cap,by rw [<- hz.1];exact e,by rw [<- hz.1];exact h1,h2⟩
theorem Ex.shape (h:Ex w v bs):∃ A cap,v=.slice A bs.length cap/\bs.length<=cap/\cap<=maxLen:=by
 obtain ⟨A,cap,e,h1,h2,-⟩:=h;exact ⟨A,cap,e,h1,h2⟩
theorem Uv.shape (h:Uv w v us):∃ A cap,v=.slice A us.length cap/\us.length<=cap/\cap<=maxLen:=by
 obtain ⟨xs,⟨A,cap,e,h1,h2,-⟩,hz⟩:=h;exact ⟨A,cap,by rw [<- hz.1];exact e,by rw [<- hz.1];exact h1,h2⟩
theorem Gx.at_ (h:Gx w v cs) (hi:cs[i]?=some ts):∃ g o cap,∃ x:Sl,v=.slice (some ⟨g,o,none⟩) cs.length cap/\g<w.heap.size/\Tx w x.v ts/\w.cell? ⟨g,o+i,none⟩=some (.slice x.A x.l x.k):=by
 obtain ⟨xs,h1,h2⟩:=h;obtain ⟨x,hx,hf⟩:=h2.left hi;obtain ⟨g,o,cap,e,h3,h4,h5⟩:=h1.at_ Yd Sl.len hx;exact ⟨g,o,cap,x,by rw [<- h2.1];exact e,h4,hf,by have:=h5 0 _ rfl;simpa using this⟩
theorem Ex.at_ (h:Ex w v bs) (hi:bs[i]?=some b):∃ g o cap,v=.slice (some ⟨g,o,none⟩) bs.length cap/\g<w.heap.size/\w.cell? ⟨g,o+i,none⟩=some (.bool b):=by
 obtain ⟨g,o,cap,e,h3,h4,h5⟩:=Rv.at_ Yd Ge h hi;exact ⟨g,o,cap,e,h4,by have:=h5 0 _ rfl;simpa using this⟩
end
end
section
namespace I
section
open Go Go.RowKit Go.Proofs Pl
def FQ (cs:List Int) (l:Tms):Tms:=(cs.filter fun c=>decide (Bh l c≠0)).map fun c=>(c,Bh l c)
theorem Nq {cs:List Int} {k:Nat} {c:Int} (h:cs[k]?=some c) (l:Tms):FQ (cs.take (k+1)) l=FQ (cs.take k) l++(if Bh l c=0 then [] else [(c,Bh l c)]):=by
 unfold FQ;rw [CZ h,List.filter_append,Vs]
 congr 1
 split
 · rename_i h0;simp [h0]
 · rename_i h0;simp [h0]
theorem OI (cs:List Int) (l:Tms):(FQ cs l).length<=cs.length:=by
 unfold FQ;rw [Uz];exact List.length_filter_le _ _
theorem Lq (a b:Tms):fqT (a++b)=fqT a++fqT b:=Vs
theorem PF {w:World} {L J:Nat} {v:Value} {l:Tms} (hv:Vt w L v l) (h0:0<L) (hL:L<=10000) (hn:l.length<=4096) (hs:∀ c,Sz J (Bh l c)) (hK:J<=1048576):
 Calls Tryz.prog 134 #[v] w fun e w'=>∃ u,e=.returned u/\Tw w w' u (fqT (mkV l)):=by
 rw [<- SF]
 have hM:7+l.length*(5*L+1)<=1073741824:=by
  have:=UN hn (show 5*L+1<=50001 by omega);omega
 obtain ⟨cs,hcs⟩:∃ cs,cs=AK l:=⟨_,rfl⟩;have hR:mkR l=FQ cs l:=by rw [hcs];rfl
 rw [hR];obtain ⟨n,hnn⟩:∃ n,cs.length=n:=⟨_,rfl⟩;have hnl:n<=4096:=by rw [<- hnn,hcs];exact TP (GF l) hn
 have HL:=Yh9 hv h0 hL hn hs hK hM hcs hnn;clear hv h0 hL hn hs hK hM hR hcs hnn;go_enter Tryz.func134,Tryz.ntmps134;go_upto_region 2 with (fail)
 have R0:Hid (Tw w (w.alloc (.cells #[] 63)) (.slice (some ⟨w.heap.size,0,none⟩) 0 0) []):=Tw.made w;generalize w.alloc _=W0 at R0 ⊢;go_wp2_with fail;refine (Py (HL.p0.keep R0.out.below) HL.p3).mono ?_;rintro e w1 ⟨pv,rfl,hp,hb⟩;rw [<- HL.p7] at hp;obtain ⟨Ap,kp,rfl⟩:=hp.shape;rw [HL.q8] at hp ⊢;obtain ⟨b0,hb0⟩:∃ b,b=W0.heap.size:=⟨_,rfl⟩;rw [<- hb0] at hp;have R1:Hid (Tw w w1 (.slice (some ⟨w.heap.size,0,none⟩) 0 0) []/\Pi w1 b0 (.slice Ap n kp) cs):=⟨R0.out.keep hb,hp⟩;clear R0 hp hb hb0;go_wp2_with fail;go_loopw [3,5] (fun z1 z2 wr=>∃ (k:Nat) (u1:Value),u1=z1/\z2=.int .i64 (k:Int)/\k<=n/\Hid (Tw w wr u1 (fqT (FQ (cs.take k) l))/\Pi wr b0 (.slice Ap n kp) cs)) (fun _ z2 _=>n - (intOf z2).toNat)
 case atStart=>exact ⟨0,_,rfl,rfl,Un _,by have h:=R1.out;exact ⟨by simpa [FQ,fqT] using h.1,h.2⟩⟩
 case round=>
  clear R1;obtain ⟨k,u1,rfl,rfl,hk,H⟩:=hrel;by_cases hlt:k<n
  · skip;have hkx:k<cs.length:=by rw [HL.q8];exact hlt
    obtain ⟨c,hc⟩:∃ c,cs[k]?=some c:=⟨_,List.getElem?_eq_getElem hkx⟩;obtain ⟨gp,capp,e,hB,hgp,c0⟩:=H.q1.at_ hc;injection e with e1 e2 e3
    subst e1;have hsu:=Nq hc l;have hlen:(fqT (FQ (cs.take k) l)).length<=1048576:=by unfold fqT;rw [Uz];have:=OI (cs.take k) l;rw [TU] at this;omega
    have HX:=Yh3 hsu hlen hc;have d0:(k:Int)<(n:Int):=Yo;clear hkx hc hB hgp e2 e3 hsu hlen capp;go_wp2_with fail;refine (Rf (HL.p0.keep H.p0.below) HL.p1 HL.p2 HL.p3).mono ?_;rintro e w4 ⟨v4,rfl,h4,hb⟩;obtain ⟨p,A4,l4,k4,B4,m4,d4,rfl⟩:=h4.parts;obtain ⟨q,hq⟩:∃ q,q=Bh l c:=⟨_,rfl⟩;rw [<- hq] at h4;have HQ:=Lib.hid hq;have T1:=Yh3 (H.p0.keep hb) (H.q1.keep hb) h4;clear h4 hb H hq c0;go_upto_region 7 with (fail)
    have hal:=Ya w4 (.cells #[.bool p,.slice A4 l4 k4,.slice B4 m4 d4] 83);have T2:=Yh4 (T1.p0.keep hal) (T1.p1.keep hal) (T1.q2.keep hal) (B3.new 83 w4 (.bool p) (.slice A4 l4 k4) (.slice B4 m4 d4));clear T1 hal;obtain ⟨gq,hgq⟩:∃ g,g=w4.heap.size:=⟨_,rfl⟩;rw [<- hgq] at T2 ⊢;generalize w4.alloc _=W5 at T2 ⊢;clear hgq;obtain ⟨c1,c2,c3,-,-,-⟩:=T2.q3.facts;go_wp2_with fail;refine (SC T2.p2).mono ?_;rintro e w6 ⟨rfl,hb⟩;have T3:=Yh4 (T2.p0.keep hb) (T2.p1.keep hb) (T2.p2.keep hb) (T2.q3.keep hb);clear T2 hb c1 c2 c3;obtain ⟨s,hs⟩:∃ s,s=ET q:=⟨_,rfl⟩;rw [<- hs];have HS:=Lib.hid hs;clear hs;by_cases hz:q=0
    · skip;have e1:(s==0)=true:=by rw [HS.out,hz];rfl
      have K2:Hid (Tw w w6 u1 (fqT (FQ (cs.take (k+1)) l))/\Pi w6 b0 (.slice (some ⟨gp,0,none⟩) n kp) cs):=⟨by rw [HX.p0,<- HQ.out,if_pos hz,UA];exact T3.p0,T3.p1⟩;clear hz T3;go_wp2_with fail
      case roundEnd=>exact ⟨⟨k+1,u1,rfl,by go_num,Yo,K2.out⟩,by simp [intOf];omega⟩
    have e1:(s==0)=false:=beq_eq_false_iff_ne.2 (by rw [HS.out];exact fun e=>hz ((DR q).1 e));have HZ:=Lib.hid hz;clear hz
    have HC:∀ W:World,Pi W b0 (.slice (some ⟨gp,0,none⟩) n kp) cs->B3 83 W gq (.bool p) (.slice A4 l4 k4) (.slice B4 m4 d4)->W.cell? ⟨gp,k,none⟩=some (.int .i64 c)/\Ye3 W gq (.bool p) (.slice A4 l4 k4) (.slice B4 m4 d4):=fun W hp hb=>by
     obtain ⟨gp2,capp,e,-,-,c0⟩:=hp.at_ HX.q2;injection e with e1 e2 e3
     injection e1 with e1
     injection e1 with e1
     subst e1;obtain ⟨c1,c2,c3,-,-,-⟩:=hb.facts;exact ⟨c0,c1,c2,c3⟩
    have HCC:=Lib.hid HC;clear HC;obtain ⟨c0,c1,c2,c3⟩:=HCC.out _ T3.p1 T3.q3;go_upto_region 8 with (fail)
    refine wp_region_held_drew (S:=fun W=>W.cell? ⟨gp,k,none⟩=some (.int .i64 c)/\Ye3 W gq (.bool p) (.slice A4 l4 k4) (.slice B4 m4 d4)) (by kernel_rfl) ⟨c0,c1,c2,c3⟩ (fun Hh=>?_);clear c0 c1 c2 c3;refine AL 6 [0,1,2,3,4,5] Hh fun K hK=>?_
    repeat refine rgA ?_
    refine hK _ _ ?_;clear hK K;have T4:Hid (Tw w w6.drew u1 (fqT (FQ (cs.take k) l))/\Pi w6.drew b0 (.slice (some ⟨gp,0,none⟩) n kp) cs/\Qe w6.drew (7+l.length*(5*L+1)) (.agg #[.bool p,.slice A4 l4 k4,.slice B4 m4 d4]) q/\B3 83 w6.drew gq (.bool p) (.slice A4 l4 k4) (.slice B4 m4 d4)):=⟨T3.p0.keep (Ai _ 1),T3.p1.keep (Ai _ 1),T3.p2.keep (Ai _ 1),T3.q3.keep (Ai _ 1)⟩;generalize w6.drew=Wd at T4 Hh ⊢;clear T3;refine rgO 6 fun K hK=>?_;go_simp;go_at_call 40;refine (P0 (K:=J) T4.p2 HL.p6 (by rw [HQ.out];exact HL.p4 c) HL.p5).mono ?_;rintro e w7 ⟨v7,rfl,h7⟩;obtain ⟨b7,A7,l7,k7,B7,m7,d7,rfl⟩:=h7.parts;have hf7:=h7.fw;have T5:=Yh4 (T4.p0.keep hf7.below) (T4.p1.keep hf7.below) (T4.q3.keep hf7.below) (hf7.from T4.p0.below);clear h7 hf7 Hh T4;go_wp2_with fail;refine rgK hK (HCC.out _ T5.p1 T5.p2) fun Hh=>?_;clear hK K;refine rgT 7 Hh ?_;refine rgO 8 fun K hK=>?_;go_simp;have hal:=Ya w7 (.cells #[.int .i64 c,.bool b7,.slice A7 l7 k7,.slice B7 m7 d7] 63);have T6:=Yh5 (T5.p0.keep hal) (T5.p1.keep hal) (T5.p2.keep hal) (T5.q3.keep hal) (Bl.new w7 63 [.int .i64 c,.bool b7,.slice A7 l7 k7,.slice B7 m7 d7]);refine rgK hK (HCC.out _ T6.p1 T6.p2) fun Hh=>?_;clear hK K;clear T5 hal;obtain ⟨gn,hgn⟩:∃ k,w7.heap.size=k:=⟨_,rfl⟩;rw [hgn] at T6 ⊢;generalize w7.alloc _=W8 at T6 Hh ⊢;clear hgn;refine rgO 9 fun K hK=>?_;rw [if_pos (by rfl)];refine RF (t:=(c,fq q)) (.tmp 25) (.tmp 33) rfl (x:=⟨c,b7,A7,l7,k7,B7,m7,d7,q⟩) rfl rfl T6.p0 rfl (Ha q).symm T6.p3 T6.q4 HX.p1 ?_;intro u2 w2 k1 k2 k3;have K2:Hid (Tw w w2 u2 (fqT (FQ (cs.take (k+1)) l))/\Pi w2 b0 (.slice (some ⟨gp,0,none⟩) n kp) cs/\B3 83 w2 gq (.bool p) (.slice A4 l4 k4) (.slice B4 m4 d4)):=⟨by rw [HX.p0,<- HQ.out,if_neg HZ.out,Lq];exact k1,AQ T6.p1 (k2 3 Yd),(k2 83 Yd).b3 T6.p2⟩;clear k1 k2 k3;refine rgK hK (HCC.out _ K2.p1 K2.q2) fun Hh=>?_;clear hK K;refine rgT 10 Hh ?_;refine Yw ?_;clear Hh;clear T6;go_wp2_with fail
    case roundEnd=>exact ⟨⟨k+1,u2,rfl,by go_num,Yo,K2.p0,K2.p1⟩,by simp [intOf];omega⟩
  · have d0:¬ (k:Int)<(n:Int):=by omega
    have hf:Hid (Tw w wr u1 (fqT (FQ cs l))):=by
     have h:=H.p0;rw [Ud (by rw [HL.q8];omega)] at h;exact h
    go_wp2_with fail;go_ret;exact ⟨_,rfl,hf.out⟩
end
end I
end
section
open Go Go.RowKit Go.Proofs Pl
section
variable {α:Type} {f:α->List Value} {xs ys:List α} {s:Nat} {w:World} {T:TypeId} {v u:Value}
theorem Lf {S:TypeId} {bytes:Nat} {z:Value} (hS:Tryz.prog.underlying S=some (.slice T)) (hI:(Tryz.prog.info? T).map (fun i=>(i.zero,i.size,i.bytes))=some (some z,s,bytes))
 (hby:0<s/\z.cells.size=s/\bytes<=128) (hf:∀ x,(f x).length=s) (hf1:∀ x,∀ u∈f x,u.oneCell'=true) {o:Oper} {a:Act} {K:Act->World->Prop} {Q:Exit->Act->World->Prop} (sO xO:Operand)
 (ho:o.op=.call { callee:=.builtin .append,args:=#[sO,xO],argTypes:=#[S,S] }) {w0:World} (hs:a.eval sO=v) (hx:a.eval xO=u)
 (hown:Rr w w0.heap.size T s f v xs) (hn:Rv w f u ys) (hl:xs.length+ys.length<=1048576) (hb:Yg w0 w)
 (h:∀ v' w',Rr w' w0.heap.size T s f v' (xs++ys)->Yg w0 w'->(∀ T',T≠T'->Ak T' w w')->(∀ g,g<w.heap.size->v.ownBlock≠some g->w'.heap[g]?=w.heap[g]?)->K (a.put o.dst v') w'):o.wp Tryz.prog a w K Q:=by
 obtain ⟨i0,hi0,hz0,hz1,hz2⟩:=info_parts hI;obtain ⟨A,cap,rfl,h1,h2,h3,h4⟩:=hn
 have go:∀ ad:Addr,A=some ad->(∀ (j:Nat) (u:Value),(Ca f ys)[j]?=some u->w.cell? (ad.add j)=some u)->o.wp Tryz.prog a w K Q:=fun ad hA hc=>by
  subst hA;refine wp_append_own _ sO xO S ho w0.heap.size T i0 z s bytes hS hi0 hz0 hz1 hz2 hby.2.1 hby.1 v xs.length (Ca f xs) hs hown ad ys.length cap (Ca f ys) hx (by rw [Dx hf]) hc (If hf1) (by unfold maxLen;omega) ?_ hb.size ?_
  · have:=UN hl hby.2.2;omega
  · intro v' w' h1 h2 _;refine h v' w' ?_ (hb.grown h2 hb.size (fun k hk=>(hown.lt k hk).1)) (fun T' hT=>BX hown h2 hT) (fun g hg hne=>h2.block g hg (fun e=>hne e.symm));unfold Rr;rw [GH,TM];exact h1
 cases A with
 | none=>
  have hc0:=h3 rfl;have hy0:ys=[]:=TN Yo;subst hy0;subst hc0;have hrun:=run_append_owned_none (P:=Tryz.prog) (w:=w) w0.heap.size S o.type T i0 s hS hi0 v xs.length (Ca f xs) hown;unfold Oper.wp;simp [execOp,ho,resolve,invoke,builtin,hs,hx,hrun,Result.andThen];exact h v w (by rw [UA];exact hown) hb (fun T' _=>Ak.refl T' w) (fun _ _ _=>rfl)
 | some ad=>
  refine go ad rfl fun j u hj=>?_
  rcases h4 with h4 | ⟨g,o',e,hg,hc⟩
  · rw [h4] at hj;cases hj
  · obtain rfl:=Option.some.inj e;have e:(⟨g,o',none⟩:Addr).add j=⟨g,o'+j,none⟩:=by unfold Addr.add;split<;>simp_all
    rw [e];exact hc j u hj
end
end
section
open Go Go.RowKit Go.Proofs
section
variable {P:Program} {md:Region.Mode} {ops:Array Oper} {Q:Exit->Act->World->Prop} {S:World->Prop}
def Di (n s:Nat):Array Bool:=((List.range s).map fun i=>decide (i<n)).toArray
theorem Ky (n s:Nat):(Di n s).size=s:=by simp [Di]
theorem Mr {n s i:Nat} (h:i<s):(Di n s)[i]?=some (decide (i<n)):=by
 simp [Di,h]
theorem KT {n s i:Nat} (d:Bool) (h:i<s):(Di n s).getD i d=decide (i<n):=by
 have:=Mr (n:=n) h;simp [Va,this]
def Dm (md:Region.Mode) (ops:Array Oper) (n:Nat):Bool:=
 decide (n<ops.size) && (List.range ops.size).all fun i=>match ops[i]? with
  | none=>true
  | some o=>(o.after.all fun e=>!Region.binds md e || decide (e.on<i)) &&
   (if i<n then (List.range (n+1)).any fun j=>decide (i<j) && (match ops[j]? with | none=>false | some oj=>oj.after.any fun e=>Region.binds md e && e.on==i)
    else if n<i then o.after.any fun e=>Region.binds md e && decide (n<=e.on) else true)
theorem CX {n:Nat} (h:Dm md ops n=true):n<ops.size:=by
 unfold Dm at h;exact of_decide_eq_true (VH.1 h).1
theorem CC {n i:Nat} {o:Oper} (h:Dm md ops n=true) (ho:ops[i]?=some o):
 (∀ e∈o.after,Region.binds md e=true->e.on<i)/\(i<n->∃ j oj,i<j/\j<=n/\ops[j]?=some oj/\∃ e∈oj.after,Region.binds md e=true/\e.on=i)/\
 (n<i->∃ e∈o.after,Region.binds md e=true/\n<=e.on):=by
 unfold Dm at h;have hi:i<ops.size:=(Array.getElem?_eq_some_iff.1 ho).1;have h1:=(UO.1 (VH.1 h).2) i (UY.2 hi);simp only [ho] at h1;obtain ⟨h2,h3⟩:=VH.1 h1;refine ⟨fun e he hb=>?_,fun hlt=>?_,fun hgt=>?_⟩
 · have:=(VC.1 h2) e he
   simpa [hb] using this
 · rw [if_pos hlt] at h3;obtain ⟨j,hj,hk⟩:=VE.1 h3;have hjn:=UY.1 hj;obtain ⟨h4,h5⟩:=VH.1 hk
   cases hoj:ops[j]? with
   | none=>simp [hoj] at h5
   | some oj=>
    simp only [hoj] at h5;obtain ⟨e,he,hb⟩:=Array.any_eq_true'.1 h5;obtain ⟨hb1,hb2⟩:=VH.1 hb;exact ⟨j,oj,of_decide_eq_true h4,Yo,hoj,e,he,hb1,by simpa using hb2⟩
 · rw [if_neg (by omega),if_pos hgt] at h3;obtain ⟨e,he,hb⟩:=Array.any_eq_true'.1 h3;obtain ⟨hb1,hb2⟩:=VH.1 hb;exact ⟨e,he,hb1,of_decide_eq_true hb2⟩
def Ld (P:Program) (md:Region.Mode) (ops:Array Oper) (n:Nat) (Q:Exit->Act->World->Prop):Exit->Act->World->Prop
 | .normal,a,w=>wpAny P md ops Q (ops.size - n) (Di n ops.size) a w
 | x,a,w=>Q x a w
theorem Mn {n i:Nat} {K:Act->World->Prop} {a:Act} {w:World} (h:wpOp P ops (Ld P md ops n Q) i K a w):wpOp P ops Q i K a w:=by
 unfold wpOp at*
 split
 · rename_i ho;simpa [ho] using h
 · rename_i o ho;simp only [ho] at h
   split
   · rename_i hw;simp only [hw,if_true] at h
     rcases h with h | ⟨h1,h2⟩
     · refine .inl ?_;unfold Oper.wp at*;generalize (execOp a.eval o).run P w=r at*
       cases r with
       | ok m w'=>
        cases m<;>simp only [Oper.upon] at h ⊢<;>first | exact h | skip
       | halt x w'=>cases x<;>simp only [Oper.upon] at h ⊢<;>exact h
     · exact .inr ⟨h1,h2⟩
   · rename_i hw;simp only [hw] at h;exact h
theorem GS:∀ (f:Nat) (l:Array Bool) (a:Act) (w:World),wpAny P md ops Q f l a w->wpAny P md ops Q (f+1) l a w
 | 0,l,a,w,h=>⟨fun _=>h.2,by rw [h.1];intro i hi;cases hi⟩
 | f+1,l,a,w,h=>⟨h.1,fun i hi=>wpOp_mono (fun a w=>GS f _ a w) (h.2 i hi)⟩
theorem GT {f:Nat} {l:Array Bool} {a:Act} {w:World} (h:wpAny P md ops Q f l a w):∀ k,wpAny P md ops Q (k+f) l a w
 | 0=>by rw [Vw];exact h
 | k+1=>by rw [Nat.add_right_comm];exact GS _ _ _ _ (GT h k)
structure Ez (md:Region.Mode) (ops:Array Oper) (n:Nat) (l l':Array Bool):Prop where
 size:l.size=ops.size
 size':l'.size=ops.size
 low:∀ i,i<n->l'.getD i true=l.getD i true
 high:∀ i,n<=i->i<ops.size->l.getD i true=false/\l'.getD i true=true
 closed:∀ (i:Nat) (o:Oper),i<n->ops[i]?=some o->l.getD i true=true->∀ e∈o.after,Region.binds md e=true->l.getD e.on true=true
theorem Dt {l:Array Bool} {i:Nat} (h:i<l.size) (d d':Bool):l.getD i d=l.getD i d':=by
 simp [Array.getD,h]
theorem Mp {n:Nat} {l l':Array Bool} (hok:Dm md ops n=true) (h:Ez md ops n l l') {on:Oper} (ho:ops[n]?=some on)
 (hn:∀ e∈on.after,Region.binds md e=true->l.getD e.on true=true):∀ i,i<n->l.getD i true=true:=by
 have key:∀ d i,i<n->n - i=d->l.getD i true=true:=by
  intro d
  induction d using Nat.strongRecOn with
  | _ d ih=>
   intro i hi hd;have hlt:=CX hok;obtain ⟨o,hoi⟩:∃ o,ops[i]?=some o:=⟨_,Array.getElem?_eq_getElem Yo⟩;obtain ⟨j,oj,h1,h2,h3,e,he,hb,hei⟩:=(CC hok hoi).2.1 hi;by_cases hjn:j=n
   · subst hjn;rw [ho] at h3;injection h3 with h3;subst h3
     rw [<- hei];exact hn e he hb
   · have hj:=ih (n - j) Yo j Yo rfl;rw [<- hei];exact h.closed j oj Yo h3 hj e he hb
 exact fun i hi=>key (n - i) i hi rfl
theorem FT {n:Nat} {l l':Array Bool} (h:Ez md ops n l l') (hall:∀ i,i<n->l.getD i true=true):l=Di n ops.size:=by
 refine Array.ext (by rw [h.size,Ky]) fun i hi hi2=>?_;have e1:l.getD i true=l[i]:=by simp [Array.getD,hi]
 have e2:(Di n ops.size).getD i true=(Di n ops.size)[i]:=by simp [Array.getD,hi2]
 have hs:i<ops.size:=by rw [<- h.size];exact hi
 rw [<- e1,<- e2,KT true hs];by_cases hin:i<n
 · rw [hall i hin,decide_eq_true hin]
 · rw [(h.high i (by omega) hs).1,decide_eq_false hin]
theorem Df {n j:Nat} {l l':Array Bool} (hok:Dm md ops n=true) (h:Ez md ops n l l') (hj:j<n):j∈Region.ready md ops l↔j∈Region.ready md ops l':=by
 have hlt:=CX hok;rw [mem_ready,mem_ready,h.low j hj]
 have key:∀ (o:Oper) (e:Edge),ops[j]?=some o->e∈o.after->Region.binds md e=true->l.getD e.on false=l'.getD e.on false:=fun o e ho he hb=>by
  have:=(CC hok ho).1 e he hb;rw [Dt (by rw [h.size];omega) false true,Dt (by rw [h.size'];omega) false true,h.low _ (by omega)]
 constructor
 · rintro ⟨h1,o,ho,hall⟩;exact ⟨h1,o,ho,fun e he hb=>by rw [<- key o e ho he hb];exact hall e he hb⟩
 · rintro ⟨h1,o,ho,hall⟩;exact ⟨h1,o,ho,fun e he hb=>by rw [key o e ho he hb];exact hall e he hb⟩
theorem KP {n j:Nat} {l l':Array Bool} (hok:Dm md ops n=true) (h:Ez md ops n l l') (hj:j<n) (hr:j∈Region.ready md ops l):Ez md ops n (l.setIfInBounds j true) (l'.setIfInBounds j true):=by
 have hlt:=CX hok
 have hset:∀ (m:Array Bool) (i:Nat),m.size=ops.size->(m.setIfInBounds j true).getD i true=if i=j then true else m.getD i true:=fun m i hm=>by
  by_cases e:i=j
  · subst e;rw [if_pos rfl];simp [Array.getD,hm]
  · rw [if_neg e,getD_set_ne true (Ne.symm e)]
 refine ⟨by simp [h.size],by simp [h.size'],fun i hi=>?_,fun i hi hs=>?_,fun i o hi ho hl e he hb=>?_⟩
 · rw [hset _ _ h.size,hset _ _ h.size',h.low i hi]
 · rw [hset _ _ h.size,hset _ _ h.size',if_neg (by omega),if_neg (by omega)];exact h.high i hi hs
 · rw [hset _ _ h.size] at hl ⊢;by_cases e1:e.on=j
   · rw [if_pos e1]
   · rw [if_neg e1];by_cases e2:i=j
     · subst e2;obtain ⟨-,o',ho',hall⟩:=mem_ready.1 hr;rw [ho] at ho';injection ho' with ho';subst ho'
       have hlow:=(CC hok ho).1 e he hb;rw [Dt (by rw [h.size];omega) true false];exact hall e he hb
     · rw [if_neg e2] at hl;exact h.closed i o hi ho hl e he hb
theorem Hn {n:Nat} {l l':Array Bool} (hok:Dm md ops n=true) (h:Ez md ops n l l') (hnil:Region.ready md ops l'=[]):∀ i,i<n->l.getD i true=true:=by
 have hlt:=CX hok;intro i
 induction i using Nat.strongRecOn with
 | _ i ih=>
  intro hi
  cases hg:l.getD i true with
  | true=>rfl
  | false=>
   obtain ⟨o,hoi⟩:∃ o,ops[i]?=some o:=⟨_,Array.getElem?_eq_getElem Yo⟩
   have:i∈Region.ready md ops l:=mem_ready.2 ⟨hg,o,hoi,fun e he hb=>by
    have hlow:=(CC hok hoi).1 e he hb;rw [Dt (by rw [h.size];omega) false true];exact ih e.on hlow Yo⟩
   rw [Df hok h hi,hnil] at this
   cases this
theorem Kq {n:Nat} (hok:Dm md ops n=true):∀ (f:Nat) (l l':Array Bool) (a:Act) (w:World),Ez md ops n l l'->
 wpAny P md ops (Ld P md ops n Q) f l' a w->wpAny P md ops Q (f+(ops.size - n)) l a w:=by
 intro f
 induction f with
 | zero=>
  intro l l' a w h hw;rw [Vw,FT h (Hn hok h hw.1)];exact hw.2
 | succ f ih=>
  intro l l' a w h hw;have hlt:=CX hok;by_cases hnil:Region.ready md ops l'=[]
  · rw [FT h (Hn hok h hnil)];exact GT (hw.1 hnil) (f+1)
  · rw [Nat.add_right_comm];obtain ⟨i,hi⟩:=List.exists_mem_of_ne_nil _ hnil
    have hin:∀ j,j∈Region.ready md ops l'->j<n:=fun j hj=>by
     obtain ⟨h1,o,ho,-⟩:=mem_ready.1 hj;refine Nat.lt_of_not_le fun hge=>?_;have:=(h.high j hge (Array.getElem?_eq_some_iff.1 ho).1).2;rw [h1] at this;cases this
    refine ⟨fun h0=>?_,fun j hj=>?_⟩
    · have:=(Df hok h (hin i hi)).2 hi;rw [h0] at this;cases this
    · have hjn:j<n:=by
       refine Nat.lt_of_not_le fun hge=>?_;obtain ⟨h1,o,ho,hall⟩:=mem_ready.1 hj;have hjs:j<ops.size:=(Array.getElem?_eq_some_iff.1 ho).1;by_cases e:j=n
       · subst e
         have hal:=Mp hok h ho fun e he hb=>by
          have hlow:=(CC hok ho).1 e he hb;rw [Dt (by rw [h.size];omega) true false];exact hall e he hb
         have h2:=hin i hi;have h3:=(Df hok h h2).2 hi;have h4:=(mem_ready.1 h3).1;rw [hal i h2] at h4;cases h4
       · obtain ⟨e,he,hb,hne⟩:=(CC hok ho).2.2 Yo;have hlow:=(CC hok ho).1 e he hb;have h5:=hall e he hb;rw [Dt (by rw [h.size];omega) false true,(h.high e.on hne (by omega)).1] at h5
         cases h5
      have hj':=(Df hok h hjn).1 hj;exact wpOp_mono (fun a w hk=>ih _ _ a w (KP hok h hjn hj) hk) (Mn (hw.2 j hj'))
theorem DM (n:Nat) {id:Nat} {a:Act} {w:World} (hm:P.follows .mixedOrders=true) (hok:Dm .any ops n=true) (m:Array Bool)
 (hmask:m=((List.range ops.size).map fun i=>decide (n<=i)).toArray) (hS:S w.drew)
 (h:S w.drew->wpAnyH P .any ops (Ld P .any ops n Q) S n m a w.drew):(Code.region id ops true).wp P Q a w:=by
 have hlt:=CX hok;refine wp_region_any hm ?_;have h1:=wpAny_of_held _ _ _ _ (h hS);have h2:=Kq hok n (Array.replicate ops.size false) m a w.drew ?_ h1
 · rwa [show n+(ops.size - n)=ops.size from by omega] at h2
 · subst hmask;refine ⟨by simp,by simp,fun i hi=>?_,fun i hi hs=>⟨?_,?_⟩,fun i o hi ho hl e he hb=>?_⟩
   · have:i<ops.size:=by omega
     simp [Array.getD,this];omega
   · simp [Array.getD,hs]
   · simp [Array.getD,hs,hi]
   · have:i<ops.size:=by omega
     simp [Array.getD,this] at hl
theorem LV {n:Nat} {a:Act} {w:World} {T:World->Prop} (m:Array Bool) (k:Nat) (hm:Di n ops.size=m) (hk:ops.size - n=k) (h:wpAnyH P md ops Q T k m a w):Ld P md ops n Q .normal a w:=by
 subst hm;subst hk;exact wpAny_of_held _ _ _ _ h
end
end
section
open Go Go.RowKit Go.Proofs Pl
theorem Kc {L:Nat} {q:Rat} (h:Sz L q):(fq q).xs.length<=L/\(fq q).ds.length<=L:=⟨Au Aw h.1,Au Aw h.2⟩
theorem Sz.neg {L:Nat} {q:Rat} (h:Sz L q):Sz L (-q):=⟨by rw [Rat.neg_num,Wj];exact h.1,by rw [Rat.neg_den];exact h.2⟩
def okB (l:LPx) (col:Int):Prop:=0<=col/\col<l.cols.length/\l.lo.length=l.cols.length/\l.hi.length=l.cols.length/\l.hasLo.length=l.cols.length/\l.hasHi.length=l.cols.length/\0<=l.n/\l.n<=l.cols.length
instance (l:LPx) (col:Int):Decidable (okB l col):=by unfold okB;infer_instance
def Fit (l:LPx):Prop:=l.cols.length<=14/\(∀ c∈l.cols,c.length<=30/\∀ t∈c,t.2.xs.length<=6/\t.2.ds.length<=6)/\∀ f,f∈l.lo∨f∈l.hi∨f∈l.cost->f.xs.length<=6/\f.ds.length<=6
theorem Ax (w:World):Below w.heap.size w w.drew:=Ai w 1
theorem JX {l:LPx} (hf:Fit l) {i:Nat} {c:List (Int × Fx)} (h:l.cols[i]?=some c):c.length<=30/\∀ t∈c,t.2.xs.length<=6/\t.2.ds.length<=6:=hf.2.1 c (TO h)
end
section
open Go Go.RowKit Go.Proofs Go.Lib
section
variable {P:Program} {md:Region.Mode} {ops:Array Oper} {Q:Exit->Act->World->Prop} {S:World->Prop} {oi:Oper} {v:Value} {fuel:Nat} {listed:Array Bool} {a:Act} {w:World} {rs:List Nat} {i:Nat}
def Dd (md:Region.Mode) (ops:Array Oper) (l:Array Bool) (i:Nat):Bool:=!l.getD i true && ((ops[i]?).map (·.after.all fun e=>!Region.binds md e || l.getD e.on false)).getD false
theorem FY {l:Array Bool} (h:Dd md ops l i=true):(Region.ready md ops l).contains i=true:=by
 rw [Vq];refine VS.2 ⟨UY.2 ?_,h⟩
 cases ho:ops[i]? with
 | none=>simp [Dd,ho] at h
 | some o=>exact (Array.getElem?_eq_some_iff.1 ho).1
def NU (md:Region.Mode) (ops:Array Oper) (i:Nat):Bool:=
 match ops[i]? with
 | none=>false
 | some oi=>(List.range ops.size).all fun j=>j==i || oi.after.any (fun e=>Region.binds md e && e.on==j) || match ops[j]? with
  | some oj=>oj.after.any (fun e=>Region.binds md e && e.on==i) || oi.apart ops oj
  | none=>true
def CJ (md:Region.Mode) (ops:Array Oper) (fs:List Nat):Bool:=Region.noSelect ops && fs.all fun i=>NU md ops i
theorem QF {l:Array Bool} (h:NU md ops i=true) (hr:Dd md ops l i=true):Region.free md ops l i=true:=by
 unfold NU at h;unfold Region.free
 cases ho:ops[i]? with
 | none=>rw [ho] at h;cases h
 | some o=>
  rw [ho] at h;simp only [UO,UY] at h ⊢;intro j hj;have:=h j hj;simp only [Wb] at this ⊢
  rcases this with (h1 | h1) | h1
  · exact .inl (.inl h1)
  · refine .inl (.inr ?_);obtain ⟨e,he,hb⟩:=Array.any_eq_true'.1 h1;simp only [TZ,beq_iff_eq] at hb;simp only [Dd,ho,Option.map_some,Wl,TZ] at hr;have h2:=VC.1 hr.2 e he;rw [hb.1,hb.2] at h2;simp only [Bool.not_true,Bool.false_or] at h2
    rcases Ul j l.size with h' | h'
    · simp [h'] at h2 ⊢;exact h2
    · simp [h'] at h2
  · exact .inr h1
theorem EY {fs:List Nat} {l:Array Bool} (h:CJ md ops fs=true) (hi:fs.contains i=true) (hr:Dd md ops l i=true):Region.free md ops l i=true:=by
 unfold CJ at h;rw [TZ,UO] at h;exact QF (h.2 i (Vq.1 hi)) hr
theorem Dp {fs:List Nat} (h:CJ md ops fs=true):Region.noSelect ops=true:=by
 unfold CJ at h;rw [TZ] at h;exact h.1
theorem Ct (fs:List Nat) (bl:List Bool) (h:Hid (CJ md ops fs=true)->wpAnyH P md ops Q S fuel bl.toArray a w) (hf:CJ md ops fs=true:=by as_aux_lemma=>kernel_rfl) (hl:listed=bl.toArray:=by as_aux_lemma=>kernel_rfl):wpAnyH P md ops Q S fuel listed a w:=by
 subst hl;exact h hf
theorem rgTk (i d:Nat) {l:List Value} {bl:List Bool} {ds:List Deferred} {fs:List Nat} (hF:Hid (CJ md ops fs=true)) (hS:S w) (h:wpAnyH P md ops Q S fuel (bl.set i true).toArray ⟨(l.set d v).toArray,ds⟩ w)
 (hi:ops[i]?=some oi:=by simp only [List.getElem?_toArray,List.getElem?_cons_succ,List.getElem?_cons_zero];rfl) (hd:oi.dst=some d:=by rfl)
 (hm:fs.contains i=true:=by as_aux_lemma=>kernel_rfl) (hr:Dd md ops bl.toArray i=true:=by as_aux_lemma=>kernel_rfl)
 (hw:Region.wanted oi (yielded ops l.toArray)=true:=by rfl)
 (hy:∀ w,S w->(execOp (Act.eval ⟨l.toArray,ds⟩) oi).run P w=.ok (.value v) w:=by (intro w hSw;(try dsimp only at hSw);(first | (go_simp;done) | (go_simp;with_reducible rfl) | (go_simp;rw [if_neg (by omega)]))))
 (hQ:∀ c a w,Q (.panic c) (a.put (some d) v) w->Q (.panic c) a w:=by exact fun _ _ _ h=>h):wpAnyH P md ops Q S (fuel+1) bl.toArray ⟨l.toArray,ds⟩ w:=by
 refine wpAnyH_take hi (Dp hF) (EY hF hm hr) (FY hr) (by rw [hd];exact hQ) (.inl ⟨hw,hy⟩) hS ?_;rw [hd,US];show wpAnyH P md ops Q S fuel _ ⟨l.toArray.setIfInBounds d v,ds⟩ w;rw [US];exact h
theorem rgU (i d:Nat) {l l':List Value} {bl bl':List Bool} {ds:List Deferred} {fs:List Nat} (hF:Hid (CJ md ops fs=true)) (hS:S w) (h:wpAnyH P md ops Q S fuel bl'.toArray ⟨l'.toArray,ds⟩ w)
 (hi:ops[i]?=some oi:=by simp only [List.getElem?_toArray,List.getElem?_cons_succ,List.getElem?_cons_zero];rfl) (hd:oi.dst=some d:=by rfl)
 (hm:fs.contains i=true:=by as_aux_lemma=>kernel_rfl) (hr:Dd md ops bl.toArray i=true:=by as_aux_lemma=>kernel_rfl)
 (hw:Region.wanted oi (yielded ops l.toArray)=true:=by rfl)
 (hy:∀ w,S w->(execOp (Act.eval ⟨l.toArray,ds⟩) oi).run P w=.ok (.value v) w:=by (intro w hSw;(try dsimp only at hSw);(first | (go_simp;done) | (go_simp;with_reducible rfl) | (go_simp;rw [if_neg (by omega)]))))
 (hQ:∀ c a w,Q (.panic c) (a.put (some d) v) w->Q (.panic c) a w:=by exact fun _ _ _ h=>h)
 (e1:bl.set i true=bl':=by first | (dsimp only [Ys,Yt];done) | (dsimp only [Ys,Yt];exact rfl) | exact rfl | kernel_rfl) (e2:l.set d v=l':=by first | (dsimp only [Ys,Yt];done) | (dsimp only [Ys,Yt];exact rfl) | exact rfl | kernel_rfl):wpAnyH P md ops Q S (fuel+1) bl.toArray ⟨l.toArray,ds⟩ w:=by
 subst e1;subst e2;exact rgTk i d hF hS h hi hd hm hr hw hy hQ
def Gc (md:Region.Mode) (ops:Array Oper) (fs:List Nat):List (Nat × Option Nat)->Array Bool->Act->Bool
 | [],_,_=>true
 | (i,d)::is,l,a=>(match ops[i]? with | none=>false | some o=>decide (o.dst=d) && !(Region.wanted o (yielded ops a.tmps))) && fs.contains i && Dd md ops l i && Gc md ops fs is (l.setIfInBounds i true) (a.put d undef)
def SN (Q:Exit->Act->World->Prop):List (Nat × Option Nat)->Prop
 | []=>True
 | p::r=>(∀ c a w,Q (.panic c) (Act.put a p.2 undef) w->Q (.panic c) a w)/\SN Q r
theorem OC {fs:List Nat} (hF:Hid (CJ md ops fs=true)) (hS:S w):∀ (is:List (Nat × Option Nat)) (listed:Array Bool) (a:Act),SN Q is->Gc md ops fs is listed a=true->
 wpAnyH P md ops Q S fuel (is.foldl (fun l p=>l.setIfInBounds p.1 true) listed) (is.foldl (fun a p=>a.put p.2 undef) a) w->wpAnyH P md ops Q S (fuel+is.length) listed a w
 | [],_,_,_,_,h=>h
 | (i,d)::is,l,a,hQ,hc,h=>by
  simp only [Gc,TZ] at hc;obtain ⟨⟨⟨h1,h2⟩,h3⟩,h4⟩:=hc
  cases ho:ops[i]? with
  | none=>rw [ho] at h1;cases h1
  | some o=>
   rw [ho] at h1;simp only [TZ,decide_eq_true_eq,Vp] at h1;obtain ⟨rfl,h5⟩:=h1;rw [U7,<- Vc];exact wpAnyH_take ho (Dp hF) (EY hF h2 h3) (FY h3) hQ.1 (.inr ⟨h5,rfl⟩) hS (OC hF hS is _ _ hQ.2 h4 h)
def skL (is:List (Nat × Option Nat)) (bl:List Bool):List Bool:=is.foldl (fun l p=>l.set p.1 true) bl
def skA (is:List (Nat × Option Nat)) (l:List Value):List Value:=is.foldl (fun l p=>match p.2 with | some d=>l.set d undef | none=>l) l
theorem PR:∀ (is:List (Nat × Option Nat)) (bl:List Bool),is.foldl (fun l p=>l.setIfInBounds p.1 true) bl.toArray=(skL is bl).toArray
 | [],_=>rfl
 | p::is,bl=>by
  rw [UH,US];exact PR is _
theorem KU {ds:List Deferred}:∀ (is:List (Nat × Option Nat)) (l:List Value),is.foldl (fun a p=>Act.put a p.2 undef) ⟨l.toArray,ds⟩=⟨(skA is l).toArray,ds⟩
 | [],_=>rfl
 | (i,none)::is,l=>by
  rw [UH];exact KU is _
 | (i,some d)::is,l=>by
  rw [UH];show is.foldl _ (⟨l.toArray.setIfInBounds d undef,ds⟩:Act)=_;rw [US];exact KU is _
theorem CB (k:Nat) (is:List (Nat × Option Nat)) {l:List Value} {bl:List Bool} {ds:List Deferred} {fs:List Nat} (hF:Hid (CJ md ops fs=true)) (hS:S w)
 (h:wpAnyH P md ops Q S fuel (skL is bl).toArray ⟨(skA is l).toArray,ds⟩ w)
 (hc:Gc md ops fs is bl.toArray ⟨l.toArray,ds⟩=true:=by as_aux_lemma=>kernel_rfl) (hk:is.length=k:=by rfl)
 (hQ:SN Q is:=by (repeat' (first | exact trivial | refine And.intro (fun _ _ _ h=>h) ?_))):wpAnyH P md ops Q S (fuel+k) bl.toArray ⟨l.toArray,ds⟩ w:=by
 subst hk;exact OC hF hS is _ _ hQ hc (by rw [PR,KU];exact h)
end
end
end Go.Proofs.YtlblnmmfphiobaaGreat
