import Derived.Test.YtlblnmmfphiobaaGreatPNA29
set_option maxRecDepth 100000
set_option maxHeartbeats 8000000
set_option linter.unusedVariables false
set_option linter.unusedSimpArgs false
namespace Go.Proofs.YtlblnmmfphiobaaGreat
section
open Go Go.RowKit Go.Proofs Pl
def alX (flags:List Bool):Nat->LPx->List Ti->LPx × List Ti
 | 0,l,ts=>(l,ts)
 | p+1,l,ts=>if (AO flags l).2.2=true∨(AO flags l).2.1=[] then ((AO flags l).1,ts++(AO flags l).2.1) else alX flags p (AO flags l).1 (ts++(AO flags l).2.1)
def I8 (M:Nat) (flags:List Bool):Nat->LPx->Prop
 | 0,_=>True
 | p+1,l=>OH M flags l/\I8 M flags p (AO flags l).1
theorem LM {flags:List Bool} {p:Nat} {l:LPx} {ts:List Ti} (h:(AO flags l).2.2=true∨(AO flags l).2.1=[]):alX flags (p+1) l ts=((AO flags l).1,ts++(AO flags l).2.1):=by rw [alX,if_pos h]
theorem SG {flags:List Bool} {p:Nat} {l:LPx} {ts:List Ti} (h:¬ ((AO flags l).2.2=true∨(AO flags l).2.1=[])):alX flags (p+1) l ts=alX flags p (AO flags l).1 (ts++(AO flags l).2.1):=by rw [alX,if_neg h]
theorem CM {flags:List Bool} {l:LPx} (hr:AA l):AA (AO flags l).1/\(AO flags l).1.n=l.n/\(AO flags l).1.cols=l.cols:=Hu hr (by have:=hr.1;omega) List.prefix_rfl
theorem In {flags:List Bool} {l:LPx} (hr:AA l) (h14:l.cols.length<=14):(AO flags l).2.1.length<=392:=by
 have h1:=LL flags l (CF l.n.toNat (l.cols.length - l.n.toNat));rw [GQ] at h1;have h2:=hr.1;have h3:(l.cols.length - l.n.toNat)*(l.n.toNat*2)<=14*(14*2):=UN Yo (UN Yo (TL 2));exact TP h1 h3
def TgK (w0 w:World) (x:Km) (t:Ti):Prop:=x.c=t.col/\x.u=t.up/\x.r=t.rd/\Qr w0 w (.agg #[.bool x.b,.slice x.A x.l x.k,.slice x.B x.m x.d]) t.v/\Ub w0 w (.slice x.U x.n x.p) t.us
theorem TgK.keepT {w0 w w':World} {x:Km} {t:Ti} (h:TgK w0 w x t) (k2:Ak 146 w w') (k3:Ak 46 w w') (hb:Below w0.heap.size w0 w'):TgK w0 w' x t:=⟨h.1,h.2.1,h.2.2.1,h.2.2.2.1.keepT k2 hb,h.2.2.2.2.keepT k3 k2 hb⟩
theorem tgz {w0 w w':World} {xs:List Km} {ts:List Ti} (h:Bd (TgK w0 w) xs ts) (k2:Ak 146 w w') (k3:Ak 46 w w') (hb:Below w0.heap.size w0 w'):Bd (TgK w0 w') xs ts:=h.imp fun x t ht=>ht.keepT k2 k3 hb
theorem TgR.rv {w0 w:World} {v:Value} {ts:List Ti} (h:TgR w0 w v ts):∃ xs:List Km,xs.length=ts.length/\Rv w Km.cs v xs/\Bd (TgK w0 w) xs ts:=by
 obtain ⟨xs,h1,h2,h3⟩:=h;exact ⟨xs,h2.1,h1.rv,h2⟩
theorem Bd.app2 {α β:Type} {P:α->β->Prop} {xs xs2:List α} {ys ys2:List β} (h:Bd P xs ys) (h2:Bd P xs2 ys2):Bd P (xs++xs2) (ys++ys2):=by
 refine ⟨by rw [TM,TM,h.1,h2.1],fun i x y hx hy=>?_⟩
 rcases Ul i xs.length with hi | hi
 · rw [List.getElem?_append_left hi] at hx;rw [List.getElem?_append_left (by rw [<- h.1];exact hi)] at hy;exact h.2 i x y hx hy
 · rw [List.getElem?_append_right hi] at hx;rw [List.getElem?_append_right (by rw [<- h.1];exact hi),<- h.1] at hy;exact h2.2 _ x y hx hy
theorem LPw.keepA {w0 w w':World} {v:Value} {l:LPx} (h:LPw w0 w v l) (k:∀ T,39≠T->Ak T w w') (hb:Below w0.heap.size w0 w'):LPw w0 w' v l:=by
 have h1:LPo w0 w v l v l:=⟨.inl h,h.below⟩;obtain ⟨x,e,h1,⟨h2,h3,h4,h5,h6,h7⟩,-⟩:=h;exact ⟨x,e,h1,⟨h2.keepT (k _ Yd) (k _ Yd) (k _ Yd) hb,h3.keepT (k _ Yd),h4.keepT (k _ Yd),h5.keepT (k _ Yd) (k _ Yd) hb,h6.keepT (k _ Yd) (k _ Yd) hb,h7.keepT (k _ Yd) (k _ Yd) hb⟩,hb⟩
theorem LPw.keepL {w0 w w':World} {v:Value} {l:LPx} (h:LPw w0 w v l) (k:∀ T,26≠T->Ak T w w') (hb:Below w0.heap.size w0 w'):LPw w0 w' v l:=by
 obtain ⟨x,e,h1,⟨h2,h3,h4,h5,h6,h7⟩,-⟩:=h;exact ⟨x,e,h1,⟨h2.keepT (k _ Yd) (k _ Yd) (k _ Yd) hb,h3.keepT (k _ Yd),h4.keepT (k _ Yd),h5.keepT (k _ Yd) (k _ Yd) hb,h6.keepT (k _ Yd) (k _ Yd) hb,h7.keepT (k _ Yd) (k _ Yd) hb⟩,hb⟩
def Ty (w:World) (r:LPx × List Ti) (e:Ending) (w':World):Prop:=∃ x y,e=.returned (.tuple #[x,y,.int .i64 0])/\LPw w w' x r.1/\TgR w w' y r.2/\Yg w w'
theorem SK {w w':World} {r:LPx × List Ti} {l:LPx} {ts:List Ti} {e:Ending} {x y:Value} (hr:r=(l,ts)) (he:e=.returned (.tuple #[x,y,.int .i64 0])) (h1:LPw w w' x l) (h2:TgR w w' y ts) (h3:Below w.heap.size w w'):Ty w r e w':=by
 subst hr;exact ⟨x,y,he,h1,h2,h3⟩
def AI (w wr:World) (flags:List Bool) (M:Nat) (r:LPx × List Ti) (N an g6 p:Nat) (z:Value) (k:Nat):Prop:=∃ (l':LPx) (ts:List Ti) (aA:Option Addr) (ac:Nat) (bA:Option Addr) (bc:Nat) (cA:Option Addr) (cc:Nat) (dA:Option Addr) (dc:Nat) (eA:Option Addr) (ec:Nat) (fA:Option Addr) (fc:Nat) (U:Option Addr) (n cp:Nat),z=.slice U n cp/\(alX flags (p - k) l' ts=r/\I8 M flags (p - k) l'/\AA l'/\l'.n=(N:Int)/\l'.cols.length=an/\ts.length<=k*392)/\LPw w wr (.agg #[.int .i64 (N:Int),.slice aA an ac,.slice bA an bc,.slice cA an cc,.slice dA an dc,.slice eA an ec,.slice fA an fc]) l'/\Bl wr 26 g6 [.int .i64 (N:Int),.slice aA an ac,.slice bA an bc,.slice cA an cc,.slice dA an dc,.slice eA an ec,.slice fA an fc]/\TgR w wr (.slice U n cp) ts/\Yg w wr
set_option maxHeartbeats 16000000 in
theorem Js {w:World} {v u:Value} {l:LPx} {flags:List Bool} {M p:Nat} (h:LPv w v l) (hu:Ex w u flags) (hr:AA l) (hf:Dl M l) (hfl:(flags.length:Int)=l.n) (hp:p<=10) (hg:I8 M flags p l) (hM:0<M) (hMx:M<=10000000):
 Calls Tryz.prog 22 #[v,u,.int .i64 (p:Int)] w fun e w'=>Ty w (alX flags p l []) e w':=by
 obtain ⟨r_,hr_⟩:∃ x,alX flags p l []=x:=⟨_,rfl⟩;rw [hr_];have hlp:=h;obtain ⟨aA,an,ac,bA,bn,bc,cA,cn,cc,dA,dn,dc,eA,en,ec,fA,fn,fc,rfl,hP,hla,hlb,hlc,hld,hle,hlf,hma,hmb,hmc,hmd,hme,hmf⟩:=h.open;have hux:=hu;obtain ⟨Fl,Fk,rfl,-,-⟩:=hu.shape;obtain ⟨m,hm⟩:∃ m,flags.length=m:=⟨_,rfl⟩;rw [hm] at hu hfl hux ⊢;obtain ⟨N,hN⟩:∃ N:Nat,l.n=(N:Int):=⟨l.n.toNat,by have:=hr.1.1;omega⟩;obtain rfl:an=bn:=by rw [<- hla,<- hlb];exact hr.1.2.2.2.2.1.symm
 obtain rfl:an=cn:=by rw [<- hla,<- hlc];exact hr.1.2.2.2.2.2.1.symm
 obtain rfl:an=dn:=by rw [<- hla,<- hld];exact hr.1.2.2.1.symm
 obtain rfl:an=en:=by rw [<- hla,<- hle];exact hr.1.2.2.2.1.symm
 obtain rfl:an=fn:=by rw [<- hla,<- hlf];exact hr.1.2.2.2.2.2.2.symm
 have hna:an<=14:=by rw [<- hla];exact hf.1.1
 have HFX:Hid (BG l m):=⟨hr.1.1,hr.1.2.1,hfl,hr.1.2.2.1,hr.1.2.2.2.1,hr.1.2.2.2.2.1,hr.1.2.2.2.2.2.1⟩;have HR0:=Yh6 hr_ hg hr hN hla hf;have HLL:=Yh5 hlb hlc hld hle hlf;have HS:=Yh2 hlp hux;have HM:=Yh4 hM hMx hp hna;rw [hN] at HS ⊢;clear hP hlp hu hux hr hf hfl hg hM hMx hm hr_ hla hlb hlc hld hle hlf hma hmb hmc hmd hme hmf h;change Calls Tryz.prog 22 #[.agg #[.int .i64 (N:Int),.slice aA an ac,.slice bA an bc,.slice cA an cc,.slice dA an dc,.slice eA an ec,.slice fA an fc],.slice Fl m Fk,.int .i64 (p:Int)] w _;go_enter Tryz.func22,Tryz.ntmps22;go_upto_region 1 with (fail)
 obtain ⟨hX,hZ,hB⟩:=box2 w 26 26 [.int .i64 (N:Int),.slice aA an ac,.slice bA an bc,.slice cA an cc,.slice dA an dc,.slice eA an ec,.slice fA an fc] [.int .i64 0,.slice none 0 0,.slice none 0 0,.slice none 0 0,.slice none 0 0,.slice none 0 0,.slice none 0 0];obtain ⟨g6,hg6⟩:∃ g,g=w.heap.size+1:=⟨_,rfl⟩;have HG:Hid (w.heap.size<=g6):=by rw [hg6];exact VF _ 1
 rw [hg6.symm] at hZ ⊢;have H0:=Yh3 hX hZ hB;clear hX hZ hB hN hg6;generalize (w.alloc _).alloc _=W0 at H0 ⊢;have m0:=Bl.ld H0.p0 0 rfl;have m1:=Bl.ld H0.p0 1 rfl;have m2:=Bl.ld H0.p0 2 rfl;have m3:=Bl.ld H0.p0 3 rfl;have m4:=Bl.ld H0.p0 4 rfl;have m5:=Bl.ld H0.p0 5 rfl;have m6:=Bl.ld H0.p0 6 rfl;have hneg:¬ ((p:Int)<0):=Yo;have hgt:¬ (10<(p:Int)):=Yo;go_wp2_with fail;refine (NZ (HS.p0.keep H0.q2)).mono ?_;rintro e w1 ⟨⟨rb,rfl,hrb⟩,hb⟩;obtain rfl:rb=true:=hrb.2 HFX.out;have H1:=Yh3 (H0.p0.keep hb) (H0.p1.keep hb) (Yb H0.q2 hb);clear hb hrb hneg hgt H0 m0 m1 m2 m3 m4 m5 m6;have m0:=Bl.ld H1.p0 0 rfl;have m1:=Bl.ld H1.p0 1 rfl;have m2:=Bl.ld H1.p0 2 rfl;have m3:=Bl.ld H1.p0 3 rfl;have m4:=Bl.ld H1.p0 4 rfl;have m5:=Bl.ld H1.p0 5 rfl;have m6:=Bl.ld H1.p0 6 rfl;go_wp2_with fail;refine (MU (HS.p0.keep H1.q2) HR0.q5 HR0.p2 HM.p0 HM.p1).mono ?_;rintro e w2 ⟨xv,rfl,h2⟩;clear m0 m1 m2 m3 m4 m5 m6;obtain ⟨aA,ac,bA,bc,cA,cc,dA,dc,eA,ec,fA,fc,rfl,h6,hb,hap⟩:=h2.open HR0.p4 HLL.p0 HLL.p1 HLL.p2 HLL.p3 HLL.q4;rw [HR0.p3] at h2 ⊢;have Y:=H1.p1.keep hb;have f0:=Bl.fr Y 0;have f1:=Bl.fr Y 1;have f2:=Bl.fr Y 2;have f3:=Bl.fr Y 3;have f4:=Bl.fr Y 4;have f5:=Bl.fr Y 5;have f6:=Bl.fr Y 6;have r0:=Bl.ld Y 0 rfl;have r1:=Bl.ld Y 1 rfl;have r2:=Bl.ld Y 2 rfl;have r3:=Bl.ld Y 3 rfl;have r4:=Bl.ld Y 4 rfl;have r5:=Bl.ld Y 5 rfl;have r6:=Bl.ld Y 6 rfl;go_upto_region 4 with (fail)
 clear f0 r0 f1 r1 f2 r2 f3 r3 f4 r4 f5 r5 f6 r6;have kk:=fun T (h:26≠T)=>Y.keep7 h (.int .i64 (N:Int)) (.slice aA an ac) (.slice bA an bc) (.slice cA an cc) (.slice dA an dc) (.slice eA an ec) (.slice fA an fc);have hbz:=AJ (Yb H1.q2 hb) HG.out (.int .i64 (N:Int)) (.slice aA an ac) (.slice bA an bc) (.slice cA an cc) (.slice dA an dc) (.slice eA an ec) (.slice fA an fc);have HP0:Hid (AI w (CD w2 g6 (.int .i64 (N:Int)) (.slice aA an ac) (.slice bA an bc) (.slice cA an cc) (.slice dA an dc) (.slice eA an ec) (.slice fA an fc)) flags M r_ N an g6 p (.slice none 0 0) 0):=⟨l,[],aA,ac,bA,bc,cA,cc,dA,dc,eA,ec,fA,fc,none,0,0,rfl,⟨HR0.p0,HR0.p1,HR0.p2,HR0.p3,HR0.p4,Un _⟩,(h2.lpw.from H1.q2).keepL kk hbz,Y.set7 rfl (.int .i64 (N:Int)) (.slice aA an ac) (.slice bA an bc) (.slice cA an cc) (.slice dA an dc) (.slice eA an ec) (.slice fA an fc),TgR.nil hbz,hbz⟩;clear h2 h6 hb hap Y kk hbz H1 HLL;unfold CD at HP0;generalize ((((((w2.setCell _ _).setCell _ _).setCell _ _).setCell _ _).setCell _ _).setCell _ _).setCell _ _=W2 at HP0 ⊢;go_wp2_with fail;go_loopw [35,7] (fun zi zj wr=>∃ (k:Nat) (z7:Value),z7=zj/\zi=.int .i64 (k:Int)/\k<=p/\Hid (AI w wr flags M r_ N an g6 p z7 k)) (fun zi _ _=>p - (intOf zi).toNat)
 case atStart=>exact ⟨0,_,rfl,rfl,Un _,HP0.out⟩
 case round=>
  clear HP0;obtain ⟨k,z7,rfl,rfl,hk,H⟩:=hrel;obtain ⟨l2,ts,aA,ac,bA,bc,cA,cc,dA,dc,eA,ec,fA,fc,U,n,cp,rfl,hst,hlp,hbl,htg,hbw⟩:=H.out;have HST:=Lib.hid hst;have H1:=Yh4 hlp hbl htg hbw;clear H hst hlp hbl htg hbw;by_cases hlt:k<p
  · skip;obtain ⟨d,hd⟩:∃ d,p - k=d+1:=⟨p - k - 1,Yo⟩;have hd2:p - (k+1)=d:=Yo;have HGD:Hid (OH M flags l2/\I8 M flags d (AO flags l2).1):=by have h:=HST.p1;rw [hd] at h;exact h
    have HPR:Hid (AA (AO flags l2).1/\(AO flags l2).1.n=(N:Int)/\(AO flags l2).1.cols.length=an):=by
     obtain ⟨h1,h2,h3⟩:=CM (flags:=flags) HST.p2;exact ⟨h1,h2.trans HST.p3,by rw [h3];exact HST.p4⟩
    have HPL:Hid ((AO flags l2).2.1.length<=392):=In HST.p2 (by rw [HST.p4];exact HM.q3);have HD:=Yh2 hd hd2;clear hd hd2;have m0:=Bl.ld H1.p1 0 rfl;have m1:=Bl.ld H1.p1 1 rfl;have m2:=Bl.ld H1.p1 2 rfl;have m3:=Bl.ld H1.p1 3 rfl;have m4:=Bl.ld H1.p1 4 rfl;have m5:=Bl.ld H1.p1 5 rfl;have m6:=Bl.ld H1.p1 6 rfl;have hpass:=RR (M:=M) (u:=.slice Fl m Fk) H1.p0.lpv (HS.q1.keep H1.q3) HST.p2 HGD.p0 HM.p0 HM.p1;go_wp2_with fail;refine hpass.mono ?_;rintro e w3 ⟨xv,y,rfl,hx,hy,hb⟩;clear hpass m0 m1 m2 m3 m4 m5 m6
    have hw3:LPw w w3 xv (AO flags l2).1:=by
     rcases hx.1 with h | ⟨rfl,e2,-⟩
     · exact h.from H1.q3
     · rw [e2];exact H1.p0.keep hb
    obtain ⟨sb,hsb⟩:∃ x,(AO flags l2).2.2=x:=⟨_,rfl⟩;obtain ⟨us,hus⟩:∃ x,(AO flags l2).2.1=x:=⟨_,rfl⟩;obtain ⟨l3,hl3⟩:∃ x,(AO flags l2).1=x:=⟨_,rfl⟩;rw [hsb];rw [hus] at hy HPL;rw [hl3] at hw3 HPR HGD;have HPX:=Yh3 hl3 hus hsb;clear hsb hus hl3 hx;have hwo:LPo w w3 (.bool false) l3 xv l3:=⟨.inl hw3,hw3.below⟩;obtain ⟨aA5,ac5,bA5,bc5,cA5,cc5,dA5,dc5,eA5,ec5,fA5,fc5,rfl⟩:=hwo.open HPR.q2 (by have h:=HPR.out;rw [<- h.2.2];exact h.1.1.2.2.2.2.1) (by have h:=HPR.out;rw [<- h.2.2];exact h.1.1.2.2.2.2.2.1) (by have h:=HPR.out;rw [<- h.2.2];exact h.1.1.2.2.1) (by have h:=HPR.out;rw [<- h.2.2];exact h.1.1.2.2.2.1) (by have h:=HPR.out;rw [<- h.2.2];exact h.1.1.2.2.2.2.2.2);clear hwo;rw [HPR.p1] at hw3 ⊢;obtain ⟨U2,cu2,rfl⟩:=hy.shape;obtain ⟨n2,hn2⟩:∃ n,us.length=n:=⟨_,rfl⟩;rw [hn2] at hy HPL ⊢;have HN2:=Lib.hid hn2;clear hn2;go_upto_region 9 with (fail)
    have hal:=Ya w3 (.cells #[.int .i64 (N:Int),.slice aA5 an ac5,.slice bA5 an bc5,.slice cA5 an cc5,.slice dA5 an dc5,.slice eA5 an ec5,.slice fA5 an fc5] 26);have hbb:=Yb hb hal;have H4:=Yh6 (hw3.keep hal) (Bl.new w3 26 [.int .i64 (N:Int),.slice aA5 an ac5,.slice bA5 an bc5,.slice cA5 an cc5,.slice dA5 an dc5,.slice eA5 an ec5,.slice fA5 an fc5]) (H1.p1.keep hbb) (H1.p2.keep hbb) ((hy.from H1.q3).keep hal) (Yb H1.q3 hbb);have HG9:Hid (g6≠w3.heap.size):=by have h:=(H1.p1.keep hb).lt;exact Nat.ne_of_lt h
    clear hal hbb hw3 hy hb H1;generalize w3.heap.size=g9 at H4 HG9 ⊢;generalize w3.alloc _=W4 at H4 ⊢;obtain ⟨xs,hx1,hx2,-⟩:=id H4.p3;obtain ⟨ys,hy0,hy1,hy2⟩:=TgR.rv H4.p4;have hxl:xs.length+ys.length<=1048576:=by rw [hx2.1,hy0];have h1:=HST.q5;have h2:=HPL.out;have h3:=HM.p2;have h4:k*392<=10*392:=TW _ Yo;rw [HN2.out];omega
    have HXS:=Yh5 hx1 hx2 hy1 hy2 hxl;clear hx1 hx2 hy0 hy1 hy2 hxl;have H5:=Yh8 (H4.p0.keep (Ax W4)) (H4.p1.keep (Ax W4)) (H4.p2.keep (Ax W4)) (HXS.p0.keep (Ax W4)) (tgz (w0:=w) HXS.p1 (Ak.below (Ax W4)) (Ak.below (Ax W4)) (Yb H4.q5 (Ax W4))) (HXS.p2.keep (Ax W4)) (tgz (w0:=w) HXS.p3 (Ak.below (Ax W4)) (Ak.below (Ax W4)) (Yb H4.q5 (Ax W4))) (Yb H4.q5 (Ax W4));refine wp_region_held_drew (S:=fun W=>W.cell? ⟨g9,0,none⟩=some (.int .i64 (N:Int))/\W.cell? ⟨g9,1,none⟩=some (.slice aA5 an ac5)/\W.cell? ⟨g9,2,none⟩=some (.slice bA5 an bc5)/\W.cell? ⟨g9,3,none⟩=some (.slice cA5 an cc5)/\W.cell? ⟨g9,4,none⟩=some (.slice dA5 an dc5)/\W.cell? ⟨g9,5,none⟩=some (.slice eA5 an ec5)/\W.cell? ⟨g9,6,none⟩=some (.slice fA5 an fc5)) (by kernel_rfl) ⟨Bl.ld H5.p1 0 rfl,Bl.ld H5.p1 1 rfl,Bl.ld H5.p1 2 rfl,Bl.ld H5.p1 3 rfl,Bl.ld H5.p1 4 rfl,Bl.ld H5.p1 5 rfl,Bl.ld H5.p1 6 rfl⟩ (fun Hh=>?_);have HLN2:=Lib.hid HXS.q4;clear H4 HXS;generalize W4.drew=Wd at H5 Hh ⊢;refine rgT 0 Hh ?_;refine rgT 1 Hh ?_;refine rgT 2 Hh ?_;refine rgO 3 fun K hK=>?_;rw [if_pos (by rfl)];refine Lf (w0:=w) (f:=Km.cs) (xs:=xs) (ys:=ys) Tryz.underlying50 EJ ⟨Yd,rfl,Yd⟩ Km.len Km.one (.tmp 45) (.tmp 46) rfl rfl rfl H5.p3 H5.p5 HLN2.out H5.q7 ?_;intro v6 w6 k1 k2 k3 k4;obtain ⟨U6,cu6,e6,-⟩:=Rr.shape k1;obtain ⟨n6,hn6⟩:∃ n,(xs++ys).length=n:=⟨_,rfl⟩;rw [hn6] at e6;subst e6;have htg6:TgR w w6 (.slice U6 n6 cu6) (ts++us):=⟨_,k1,(tgz H5.p4 (k3 _ Yd) (k3 _ Yd) k2).app2 (tgz H5.p6 (k3 _ Yd) (k3 _ Yd) k2),k2⟩;have H6:=Yh5 (H5.p0.keepA k3 k2) ((k3 _ Yd).bl H5.p1) ((k3 _ Yd).bl H5.p2) htg6 k2;clear htg6 k1 k2 k3 k4 H5 hn6 Hh;refine rgK hK ⟨Bl.ld H6.p1 0 rfl,Bl.ld H6.p1 1 rfl,Bl.ld H6.p1 2 rfl,Bl.ld H6.p1 3 rfl,Bl.ld H6.p1 4 rfl,Bl.ld H6.p1 5 rfl,Bl.ld H6.p1 6 rfl⟩ fun Hh=>?_;clear hK K;skip;refine rgO 4 fun K hK=>?_;have Y:=H6.p2;have f0:=Bl.fr Y 0;have f1:=Bl.fr Y 1;have f2:=Bl.fr Y 2;have f3:=Bl.fr Y 3;have f4:=Bl.fr Y 4;have f5:=Bl.fr Y 5;have f6:=Bl.fr Y 6;have r0:=Bl.ld Y 0 rfl;have r1:=Bl.ld Y 1 rfl;have r2:=Bl.ld Y 2 rfl;have r3:=Bl.ld Y 3 rfl;have r4:=Bl.ld Y 4 rfl;have r5:=Bl.ld Y 5 rfl;have r6:=Bl.ld Y 6 rfl;go_simp;clear f0 r0 f1 r1 f2 r2 f3 r3 f4 r4 f5 r5 f6 r6;have kk:=fun T (h:26≠T)=>Y.keep7 h (.int .i64 (N:Int)) (.slice aA5 an ac5) (.slice bA5 an bc5) (.slice cA5 an cc5) (.slice dA5 an dc5) (.slice eA5 an ec5) (.slice fA5 an fc5);have hbz:=AJ H6.q4 HG.out (.int .i64 (N:Int)) (.slice aA5 an ac5) (.slice bA5 an bc5) (.slice cA5 an cc5) (.slice dA5 an dc5) (.slice eA5 an ec5) (.slice fA5 an fc5);have H7:=Yh4 (H6.p0.keepL kk hbz) (Y.set7 rfl (.int .i64 (N:Int)) (.slice aA5 an ac5) (.slice bA5 an bc5) (.slice cA5 an cc5) (.slice dA5 an dc5) (.slice eA5 an ec5) (.slice fA5 an fc5)) (H6.p3.keepT (kk _ Yd) (kk _ Yd) (kk _ Yd) hbz) hbz;have HX9:=Lib.hid (H6.p1.other7 HG9.out (.int .i64 (N:Int)) (.slice aA5 an ac5) (.slice bA5 an bc5) (.slice cA5 an cc5) (.slice dA5 an dc5) (.slice eA5 an ec5) (.slice fA5 an fc5));clear Y kk hbz H6 Hh;unfold CD at H7 HX9;refine rgK hK ⟨Bl.ld HX9.out 0 rfl,Bl.ld HX9.out 1 rfl,Bl.ld HX9.out 2 rfl,Bl.ld HX9.out 3 rfl,Bl.ld HX9.out 4 rfl,Bl.ld HX9.out 5 rfl,Bl.ld HX9.out 6 rfl⟩ fun Hh=>?_;clear hK K;generalize ((((((w6.setCell _ _).setCell _ _).setCell _ _).setCell _ _).setCell _ _).setCell _ _).setCell _ _=W7 at H7 HX9 Hh ⊢;clear HX9;refine rgT 5 Hh ?_;refine Yw ?_;clear Hh
    cases sb with
    | true=>
     have m0:=Bl.ld H7.p1 0 rfl;have m1:=Bl.ld H7.p1 1 rfl;have m2:=Bl.ld H7.p1 2 rfl;have m3:=Bl.ld H7.p1 3 rfl;have m4:=Bl.ld H7.p1 4 rfl;have m5:=Bl.ld H7.p1 5 rfl;have m6:=Bl.ld H7.p1 6 rfl;have Y:=H7.p1;have f0:=Bl.fr Y 0;have f1:=Bl.fr Y 1;have f2:=Bl.fr Y 2;have f3:=Bl.fr Y 3;have f4:=Bl.fr Y 4;have f5:=Bl.fr Y 5;have f6:=Bl.fr Y 6;go_wp2_with fail;clear m0 f0 m1 f1 m2 f2 m3 f3 m4 f4 m5 f5 m6 f6;refine AP (Y.set7 rfl (.int .i64 (N:Int)) (.slice aA5 an ac5) (.slice bA5 an bc5) (.slice cA5 an cc5) (.slice dA5 an dc5) (.slice eA5 an ec5) (.slice fA5 an fc5)) (fun W2 hW=>by have d0:=hW 0 _ rfl;have d1:=hW 1 _ rfl;have d2:=hW 2 _ rfl;have d3:=hW 3 _ rfl;have d4:=hW 4 _ rfl;have d5:=hW 5 _ rfl;have d6:=hW 6 _ rfl;simp [results,Tryz.results22,go_sem,d0,d1,d2,d3,d4,d5,d6];try rfl) rfl ?_;have kk:=fun T (h:26≠T)=>Y.keep7 h (.int .i64 (N:Int)) (.slice aA5 an ac5) (.slice bA5 an bc5) (.slice cA5 an cc5) (.slice dA5 an dc5) (.slice eA5 an ec5) (.slice fA5 an fc5);have hbz:=AJ H7.q3 HG.out (.int .i64 (N:Int)) (.slice aA5 an ac5) (.slice bA5 an bc5) (.slice cA5 an cc5) (.slice dA5 an dc5) (.slice eA5 an ec5) (.slice fA5 an fc5);exact SK ((by have h:=HST.p0;rw [HD.p0,LM (.inl HPX.q2),HPX.p0,HPX.p1] at h;exact h.symm):r_=(l3,ts++us)) rfl (H7.p0.keepL kk hbz) (H7.p2.keepT (kk _ Yd) (kk _ Yd) (kk _ Yd) hbz) hbz
    | false=>
     by_cases hn0:n2=0
     · skip;have hne:us=[]:=TN (HN2.out.trans hn0);have HNE:=Lib.hid hne;clear hne;subst hn0;have m0:=Bl.ld H7.p1 0 rfl;have m1:=Bl.ld H7.p1 1 rfl;have m2:=Bl.ld H7.p1 2 rfl;have m3:=Bl.ld H7.p1 3 rfl;have m4:=Bl.ld H7.p1 4 rfl;have m5:=Bl.ld H7.p1 5 rfl;have m6:=Bl.ld H7.p1 6 rfl;have Y:=H7.p1;have f0:=Bl.fr Y 0;have f1:=Bl.fr Y 1;have f2:=Bl.fr Y 2;have f3:=Bl.fr Y 3;have f4:=Bl.fr Y 4;have f5:=Bl.fr Y 5;have f6:=Bl.fr Y 6;go_wp2_with fail;clear m0 f0 m1 f1 m2 f2 m3 f3 m4 f4 m5 f5 m6 f6;refine AP (Y.set7 rfl (.int .i64 (N:Int)) (.slice aA5 an ac5) (.slice bA5 an bc5) (.slice cA5 an cc5) (.slice dA5 an dc5) (.slice eA5 an ec5) (.slice fA5 an fc5)) (fun W2 hW=>by have d0:=hW 0 _ rfl;have d1:=hW 1 _ rfl;have d2:=hW 2 _ rfl;have d3:=hW 3 _ rfl;have d4:=hW 4 _ rfl;have d5:=hW 5 _ rfl;have d6:=hW 6 _ rfl;simp [results,Tryz.results22,go_sem,d0,d1,d2,d3,d4,d5,d6];try rfl) rfl ?_;have kk:=fun T (h:26≠T)=>Y.keep7 h (.int .i64 (N:Int)) (.slice aA5 an ac5) (.slice bA5 an bc5) (.slice cA5 an cc5) (.slice dA5 an dc5) (.slice eA5 an ec5) (.slice fA5 an fc5);have hbz:=AJ H7.q3 HG.out (.int .i64 (N:Int)) (.slice aA5 an ac5) (.slice bA5 an bc5) (.slice cA5 an cc5) (.slice dA5 an dc5) (.slice eA5 an ec5) (.slice fA5 an fc5);exact SK ((by have h:=HST.p0;rw [HD.p0,LM (.inr (HPX.p1.trans HNE.out)),HPX.p0,HPX.p1] at h;exact h.symm):r_=(l3,ts++us)) rfl (H7.p0.keepL kk hbz) (H7.p2.keepT (kk _ Yd) (kk _ Yd) (kk _ Yd) hbz) hbz
     have hn1:((n2:Int)==0)=false:=by rw [beq_eq_false_iff_ne];omega
     have HON:Hid (¬ ((AO flags l2).2.2=true∨(AO flags l2).2.1=[])):=by rw [HPX.q2,HPX.p1];rintro (h | h);{ cases h };{ rw [h] at HN2;exact hn0 HN2.out.symm }
     clear hn0;go_wp2_with fail
     case roundEnd=>exact ⟨⟨k+1,_,rfl,by go_num,Yo,l3,ts++us,aA5,ac5,bA5,bc5,cA5,cc5,dA5,dc5,eA5,ec5,fA5,fc5,U6,n6,cu6,rfl,⟨by have h:=HST.p0;rw [HD.p0,SG HON.out,HPX.p0,HPX.p1] at h;rw [HD.q1];exact h,by rw [HD.q1];exact HGD.q1,HPR.p0,HPR.p1,HPR.q2,by rw [TM,HN2.out,Vz];exact Nat.add_le_add HST.q5 HPL.out⟩,H7.out⟩,by simp [intOf];omega⟩
  obtain rfl:k=p:=by omega
  have m0:=Bl.ld H1.p1 0 rfl;have m1:=Bl.ld H1.p1 1 rfl;have m2:=Bl.ld H1.p1 2 rfl;have m3:=Bl.ld H1.p1 3 rfl;have m4:=Bl.ld H1.p1 4 rfl;have m5:=Bl.ld H1.p1 5 rfl;have m6:=Bl.ld H1.p1 6 rfl;have Y:=H1.p1;have f0:=Bl.fr Y 0;have f1:=Bl.fr Y 1;have f2:=Bl.fr Y 2;have f3:=Bl.fr Y 3;have f4:=Bl.fr Y 4;have f5:=Bl.fr Y 5;have f6:=Bl.fr Y 6;go_wp2_with fail;clear m0 f0 m1 f1 m2 f2 m3 f3 m4 f4 m5 f5 m6 f6;refine AP (Y.set7 rfl (.int .i64 (N:Int)) (.slice aA an ac) (.slice bA an bc) (.slice cA an cc) (.slice dA an dc) (.slice eA an ec) (.slice fA an fc)) (fun W2 hW=>by have d0:=hW 0 _ rfl;have d1:=hW 1 _ rfl;have d2:=hW 2 _ rfl;have d3:=hW 3 _ rfl;have d4:=hW 4 _ rfl;have d5:=hW 5 _ rfl;have d6:=hW 6 _ rfl;simp [results,Tryz.results22,go_sem,d0,d1,d2,d3,d4,d5,d6];try rfl) rfl ?_;have kk:=fun T (h:26≠T)=>Y.keep7 h (.int .i64 (N:Int)) (.slice aA an ac) (.slice bA an bc) (.slice cA an cc) (.slice dA an dc) (.slice eA an ec) (.slice fA an fc);have hbz:=AJ H1.q3 HG.out (.int .i64 (N:Int)) (.slice aA an ac) (.slice bA an bc) (.slice cA an cc) (.slice dA an dc) (.slice eA an ec) (.slice fA an fc);exact SK ((by have h:=HST.p0;rw [VM] at h;exact h.symm):r_=(l2,ts)) rfl (H1.p0.keepL kk hbz) (H1.p2.keepT (kk _ Yd) (kk _ Yd) (kk _ Yd) hbz) hbz
def Vd (D B:Nat) (q:Rat):Prop:=∃ z:Int,q=mkRat z D/\z.natAbs<WB ^ B
section
variable {D E B C:Nat} {q r:Rat} {z:Int}
theorem Er {a b:Nat} (h:a<=b):WB ^ a<=WB ^ b:=Ua Ay h
theorem PK {a b x y:Nat} (hx:x<WB ^ a) (hy:y<WB ^ b):x+y<WB ^ (max a b+1):=by
 have h1:=Er (Nat.le_max_left a b);have h2:=Er (Nat.le_max_right a b);have h3:WB ^ (max a b+1)=WB ^ max a b*WB:=UD ..;have h4:WB ^ max a b*2<=WB ^ max a b*WB:=TY _ (by rw [Bz];decide);omega
theorem Fm {a b x y:Nat} (hx:x<WB ^ a) (hy:y<WB ^ b):x*y<WB ^ (a+b):=by rw [UF];exact UG hx hy
theorem Vd.mono (h:Vd D B q) (hb:B<=C):Vd D C q:=by
 obtain ⟨z,e,h⟩:=h;exact ⟨z,e,TV h (Er hb)⟩
theorem Vd.up (h:Vd D B q) (hE:E≠0) (hE2:E<WB ^ C):Vd (D*E) (B+C) q:=by
 obtain ⟨z,e,h⟩:=h;refine ⟨z*(E:Int),?_,by rw [UL,V9];exact Fm h hE2⟩;rw [e,Rat.mkRat_mul_right hE]
theorem Vd.add (hD:D≠0) (h:Vd D B q) (h2:Vd D C r):Vd D (max B C+1) (q+r):=by
 obtain ⟨z,rfl,h⟩:=h;obtain ⟨y,rfl,h2⟩:=h2;refine ⟨z+y,?_,Ug (Int.natAbs_add_le z y) (PK h h2)⟩;rw [Rat.mkRat_add_mkRat _ _ hD hD,<- Int.add_mul,Rat.mkRat_mul_right hD]
theorem Vd.mul (hD:D≠0) (h:Vd D B r) (hq:Sz C q):Vd (D*q.den) (C+B) (q*r):=by
 obtain ⟨z,rfl,h⟩:=h;refine ⟨q.num*z,?_,by rw [UL];exact Fm hq.1 h⟩;have e:q=mkRat q.num q.den:=(Wi q).symm
 conv=>lhs;rw [e]
 rw [Rat.mkRat_mul_mkRat,TX D]
theorem Vd.sz (hD:D≠0) (hD2:D<WB ^ B) (h:Vd D B q):Sz B q:=by
 obtain ⟨z,rfl,h⟩:=h;obtain ⟨g,hg,e1,e2⟩:=EP z hD;have h1:1<=g:=Yo;constructor
 · refine Ug ?_ h
   conv=>rhs;rw [e1]
   rw [UL,V9];exact Nat.le_mul_of_pos_right _ h1
 · refine Ug ?_ hD2
   conv=>rhs;rw [e2]
   exact Nat.le_mul_of_pos_right _ h1
theorem Vd.zero:Vd D B 0:=⟨0,by rw [Rat.zero_mkRat],Ve Ay⟩
theorem Vd.int (hD:D≠0) (h:(z*(D:Int)).natAbs<WB ^ B):Vd D B (z:Rat):=by
 refine ⟨z*(D:Int),?_,h⟩;have e:(z:Rat)=mkRat z 1:=by rw [Rat.mkRat_one]
 rw [e];have h2:=Rat.mkRat_mul_right (n:=z) (d:=1) hD;rw [Nat.one_mul] at h2;exact h2.symm
end
section
variable {l:LPx} {up:Bool} {N r c i k D K M:Nat} {a o:Rat} {st:Rat × List Ux} {flags:List Bool}
theorem LR {st':Rat × List Ux} (h:Gh l up i o st=some st'):st'.1=st.1+o*Cs l (hiQ up o) i:=by
 unfold Gh at h
 split at h
 · cases h;rfl
 · cases h
theorem JF (hs:SzM M l) (hc:∀ c∈l.cols,c.length<=30) (hD:D≠0) (hb:∀ hi i,Vd D K (Cs l hi i)):∀ {k:Nat} {st:Rat × List Ux},Cz l up N r c (Cc l i r) k=some st->∃ m e:Nat,e=500*(k+1)/\m≠0/\m<WB ^ e/\Vd (D*m) (K+501*(k+2)) st.1
 | 0,st,h=>by
  have h1:=LR h;obtain ⟨F,hF⟩:∃ F,F=500:=⟨_,rfl⟩;have h2:Sz F (1 / Cc l i r):=by rw [hF];exact KJ hs hc
  refine ⟨(1 / Cc l i r).den,F,Yo,Rat.den_nz _,h2.2,?_⟩;rw [h1,Vn];exact ((hb _ _).mul hD h2).mono Yo
 | k+1,st,h=>by
  rcases e:Cz l up N r c (Cc l i r) k with - | st0
  · rw [DE e (Nat.le_succ k)] at h;cases h
  · obtain ⟨m,x,hx,h0,h1,h2⟩:=JF hs hc hD hb e;by_cases hk:k=c∨Cc l k r=0
    · rw [Dy e hk] at h
      cases h
      exact ⟨m,500*(k+1+1),rfl,h0,TV h1 (Er Yo),h2.mono Yo⟩
    · rw [Ef e hk] at h;have h3:=LR h;obtain ⟨F,hF⟩:∃ F,F=500:=⟨_,rfl⟩;have h4:Sz F (-(Cc l k r*(1 / Cc l i r))):=by rw [hF];exact GI hs hc
      generalize -(Cc l k r*(1 / Cc l i r))=o at h3 h4;have hz:=Rat.den_nz o;refine ⟨m*o.den,x+F,Yo,UX h0 hz,Fm h1 h4.2,?_⟩;rw [h3];have k1:=h2.up hz h4.2;have k2:=((hb (hiQ up o) k).mul hD h4).up h0 h1;rw [Uf] at k1;rw [Uf,TX o.den] at k2;exact (k1.add (UX hD (UX h0 hz)) k2).mono Yo
theorem JK {q:Rat} {B:Nat} (hD:D≠0) (h2:D<WB ^ K) (h:Vd D B q):Vd D (max B K+1) (q.floor:Rat):=by
 obtain ⟨z,rfl,h⟩:=h;refine Vd.int hD ?_;rw [<- Ja z hD,VD _ (by omega)];have e1:=Int.mul_ediv_add_emod z (D:Int);have e2:=Int.emod_nonneg z (show (D:Int)≠0 by omega);have e3:=Int.emod_lt_of_pos z (show (0:Int)<(D:Int) by omega);rw [Int.mul_comm] at e1;have e4:(z / (D:Int)*(D:Int)).natAbs<=z.natAbs+D:=Yo;exact Ug e4 (PK h h2)
theorem Vd.neg {q:Rat} {B:Nat} (h:Vd D B q):Vd D B (-q):=by
 obtain ⟨z,rfl,h⟩:=h;exact ⟨-z,by rw [Rat.neg_mkRat],by rw [Wj];exact h⟩
theorem NE {q:Rat} {B:Nat} (hD:D≠0) (h2:D<WB ^ K) (h:Vd D B q):Vd D (max B K+1) (Cn up q):=by
 cases up with
 | true=>exact JK hD h2 h
 | false=>
  have h3:=(JK hD h2 h.neg).neg
  have e:Cn false q=-(((-q).floor:Int):Rat):=by
   show ((-(-q).floor:Int):Rat)=_;rw [Rat.intCast_neg]
  rw [e];exact h3
theorem NC {row col:Int} {t:Ti} {E:Nat} (hE:E=7500) (h:AZ l flags row col up=some t) (hs:SzM M l) (hc:∀ c∈l.cols,c.length<=30) (h14:l.cols.length<=14) (hD:D≠0) (hD2:D<WB ^ K) (hb:∀ hi i,Vd D K (Cs l hi i)):∃ m:Nat,m≠0/\m<WB ^ E/\Vd (D*m) (K+8100) t.v:=by
 unfold AZ at h
 split at h
 · rename_i hz;unfold Dk at h
   split at h
   · cases h
   · split at h
     · cases h
     · rename_i st hst;obtain ⟨m,x,hx,h0,h1,h2⟩:=JF hs hc hD hb hst;have hn:l.n.toNat<=14:=by have:=hz.1;unfold BG at this;omega
       have h1:=TV h1 (Er (show x<=E by omega));have h3:D*m<WB ^ (K+E):=Fm hD2 h1;refine ⟨m,h0,h1,?_⟩;unfold ML at h
       split at h
       · cases h
         show Vd _ _ (MN _ up st.1);unfold MN
         split
         · exact (NE (UX hD h0) h3 h2).mono Yo
         · exact h2.mono Yo
       · cases h
 · cases h
end
structure Iv (K:Nat) (l:LPx):Prop where
 right:AA l
 c8:l.cols.length<=8
 cw:∀ c∈l.cols,c.length<=30/\∀ t∈c,t.2.xs.length<=6/\t.2.ds.length<=6
 co:∀ f∈l.cost,f.xs.length<=6/\f.ds.length<=6
 den:∃ D:Nat,D≠0/\D<WB ^ K/\(∀ f∈l.lo,Vd D K f.q)/\∀ f∈l.hi,Vd D K f.q
theorem Pt {n L:Nat} (h:(dg WB n).length<=L):n<WB ^ L:=by
 have h1:=Bc (B:=WB) (xs:=dg WB n) (FN Ay n);rw [AR Aw] at h1;exact TV h1 (Er h)
theorem LA {f:Fx} {L:Nat} (hf:f=fq f.q) (h1:f.xs.length<=L) (h2:f.ds.length<=L):Sz L f.q:=by
 rw [hf] at h1 h2;exact ⟨Pt h1,Pt h2⟩
theorem RC {f:Fx} {L:Nat} (hf:f=fq f.q) (h:Sz L f.q):f.xs.length<=L/\f.ds.length<=L:=by
 rw [hf];exact ⟨Au Aw h.1,Au Aw h.2⟩
section
variable {l:LPx} {K M p:Nat} {flags:List Bool} {up:Bool}
theorem Iv.bnds (h:Iv K l):(∀ f∈l.lo,Sz K f.q)/\∀ f∈l.hi,Sz K f.q:=by
 obtain ⟨D,h1,h2,h3,h4⟩:=h.den;exact ⟨fun f hf=>(h3 f hf).sz h1 h2,fun f hf=>(h4 f hf).sz h1 h2⟩
theorem Iv.fit (h:Iv K l) (hK:K<=M) (h6:6<=M):Dl M l:=by
 obtain ⟨h1,h2⟩:=h.bnds;have hr:=h.right.1;have h8:=h.c8;refine ⟨⟨Yo,h.cw,fun f hf=>?_⟩,Yo,Yo,Yo⟩
 rcases hf with hf | hf | hf
 · have:=RC (Gp h.right hf) (h1 f hf);omega
 · have:=RC (DT h.right hf) (h2 f hf);omega
 · have:=h.co f hf;omega
theorem RT (hr:AA l) (hw:∀ c∈l.cols,c.length<=30/\∀ t∈c,t.2.xs.length<=6/\t.2.ds.length<=6):∀ c∈l.cols,∀ t∈c,Sz 6 t.2.q:=fun c hc t ht=>by
 obtain ⟨k,hk⟩:=List.getElem?_of_mem hc;have e:=Hw hr hk;have h6:=(hw c hc).2 t ht;rw [e] at ht;unfold fqT at ht;obtain ⟨u,hu,rfl⟩:=UP.1 ht;exact LA (by rw [Ha]) h6.1 h6.2
theorem Iv.szm (h:Iv K l) (hK:6<=K):SzM K l:=by
 obtain ⟨h1,h2⟩:=h.bnds;refine ⟨RT h.right h.cw,fun f hf=>?_⟩
 rcases hf with hf | hf | hf
 · exact h1 f hf
 · exact h2 f hf
 · exact (LA (Gn h.right hf) (h.co f hf).1 (h.co f hf).2).mono hK
theorem Iv.mono {K':Nat} (h:Iv K l) (hK:K<=K'):Iv K' l:=by
 obtain ⟨D,h1,h2,h3,h4⟩:=h.den;exact ⟨h.right,h.c8,h.cw,h.co,D,h1,TV h2 (Er hK),fun f hf=>(h3 f hf).mono hK,fun f hf=>(h4 f hf).mono hK⟩
theorem Iv.step (h:Iv K l) (hK:6<=K) {row col:Int} {t:Ti} (ht:AZ l flags row col up=some t):Iv (K+8100) (Ce l col.toNat up (fq t.v)):=by
 obtain ⟨D,h1,h2,h3,h4⟩:=h.den
 have hb:∀ hi i,Vd D K (Cs l hi i):=fun hi i=>by
  have h0:Vd D K fx0.q:=by
   have e:fx0.q=0:=by decide+kernel
   rw [e];exact Vd.zero
  unfold Cs
  split
  · rw [TS]
    rcases e:l.hi[i]? with - | f
    · exact h0
    · exact h4 f (TO e)
  · rw [TS]
    rcases e:l.lo[i]? with - | f
    · exact h0
    · exact h3 f (TO e)
 obtain ⟨E,hE⟩:∃ E,E=7500:=⟨_,rfl⟩;obtain ⟨m,k0,k1,k2⟩:=NC hE ht (h.szm hK) (fun c hc=>(h.cw c hc).1) (by have:=h.c8;omega) h1 h2 hb
 have hcol:col.toNat<l.cols.length:=by
  unfold AZ at ht
  split at ht
  · rename_i hz;have:=hz.1;unfold BG at this;omega
  · cases ht
 have hv:Vd (D*m) (K+8100) (fq t.v).q:=by rw [Ha];exact k2
 have hu:∀ {q:Rat},Vd D K q->Vd (D*m) (K+8100) q:=fun hq=>(hq.up k0 k1).mono Yo;refine ⟨GY h.right hcol,by rw [CE];exact h.c8,by rw [CE];exact h.cw,by rw [FM];exact h.co,D*m,UX h1 k0,TV (Fm h2 k1) (Er Yo),?_⟩
 cases up with
 | true=>
  refine ⟨fun f hf=>hu (h3 f hf),fun f hf=>?_⟩
  rcases List.mem_or_eq_of_mem_set hf with hf | rfl
  · exact hu (h4 f hf)
  · exact hv
 | false=>
  refine ⟨fun f hf=>?_,fun f hf=>hu (h4 f hf)⟩
  rcases List.mem_or_eq_of_mem_set hf with hf | rfl
  · exact hu (h3 f hf)
  · exact hv
theorem Iv.run (h:Iv K l) (hK:6<=K) (ps:List (Nat × Nat × Bool)):Iv (K+8100*ps.length) (stX flags l ps).1:=by
 induction ps using Ds with
 | h0=>exact h
 | h1 ps p ih=>
  rw [Dc,CO,TM,Ui]
  split
  · exact ih.mono Yo
  · split
    · exact ih.mono Yo
    · rename_i t ht;have:=ih.step Yo ht;simp only [Vy] at this;exact this.mono Yo
theorem JE (h:Iv K l):(CF l.n.toNat (l.cols.length - l.n.toNat)).length<=32:=by
 rw [GQ];have h1:=h.right.1;have h2:=h.c8;obtain ⟨n,hn⟩:∃ n,l.n.toNat=n:=⟨_,rfl⟩;obtain ⟨m,hm⟩:∃ m,l.cols.length - l.n.toNat=m:=⟨_,rfl⟩;rw [hn] at hm;rw [hn,hm];have h3:n+m<=8:=Yo;have h4:n<=8:=Yo;clear hn hm h1 h2 h;have:∀ n:Fin 9,∀ m:Fin 9,n.1+m.1<=8->m.1*(n.1*2)<=32:=by decide
 exact this ⟨n,Yo⟩ ⟨m,Yo⟩ h3
theorem Iv.pass (h:Iv K l) (hK:6<=K):Iv (K+259200) (AO flags l).1:=(h.run hK _).mono (by have:=JE h;omega)
theorem Iv.good (h:Iv K l) (hK:6<=K) (hM:K+p*259200<=M):I8 M flags p l:=by
 induction p generalizing K l with
 | zero=>trivial
 | succ p ih=>
  refine ⟨fun ps hp=>(h.run hK ps).fit ?_ Yo,ih (h.pass hK) Yo (by rw [Vz] at hM;omega)⟩;have:=hp.length_le;have:=JE h;rw [Vz] at hM;omega
theorem Iv.all (h:Iv K l) (hK:6<=K) (ts:List Ti):Iv (K+p*259200) (alX flags p l ts).1:=by
 induction p generalizing K l ts with
 | zero=>exact h.mono Yo
 | succ p ih=>
  rw [alX,Vz]
  split
  · exact (h.pass hK).mono Yo
  · exact (ih (h.pass hK) Yo _).mono Yo
theorem dens (fs:List Fx) (h:∀ f∈fs,Sz 6 f.q):∃ D:Nat,D≠0/\D<WB ^ (6*fs.length+1)/\∀ f∈fs,Vd D (6*fs.length+7) f.q:=by
 induction fs with
 | nil=>exact ⟨1,Yd,by rw [Bz];decide,fun f hf=>by cases hf⟩
 | cons f fs ih=>
  obtain ⟨D,h1,h2,h3⟩:=ih fun f hf=>h f (UR _ hf);have hs:=h f Vu;refine ⟨D*f.q.den,UX h1 (Rat.den_nz _),TV (Fm h2 hs.2) (Er (by rw [U7];omega)),fun g hg=>?_⟩;rw [U7]
  rcases Ue.1 hg with rfl | hg
  · have hv:Vd g.q.den 6 g.q:=⟨g.q.num,(Wi _).symm,hs.1⟩;have:=hv.up h1 h2;rw [TX] at this;exact this.mono Yo
  · exact ((h3 g hg).up (Rat.den_nz _) hs.2).mono Yo
theorem Iv.start (hr:AA l) (hf:Dl 6 l) (h8:l.cols.length<=8):Iv 200 l:=by
 obtain ⟨D,h1,h2,h3⟩:=dens (l.lo++l.hi) fun f hf'=>by
  rcases Uw.1 hf' with h | h
  · exact LA (Gp hr h) (hf.1.2.2 f (.inl h)).1 (hf.1.2.2 f (.inl h)).2
  · exact LA (DT hr h) (hf.1.2.2 f (.inr (.inl h))).1 (hf.1.2.2 f (.inr (.inl h))).2
 have hl:(l.lo++l.hi).length<=16:=by rw [TM];have:=hr.1;omega
 exact ⟨hr,h8,hf.1.2.1,fun f h=>hf.1.2.2 f (.inr (.inr h)),D,h1,TV h2 (Er Yo),fun f h=>(h3 f (VU _ h)).mono Yo,fun f h=>(h3 f (Wf _ h)).mono Yo⟩
end
section
variable {wv w0 w w':World} {v v' u:Value} {fs gs hs:List Fx} {f:Fx} {bs cs:List Bool} {b c:Bool}
def Rc (wv w0 w:World) (v:Value) (fs:List Fx):Prop:=∃ xs,Rr w w0.heap.size 36 3 Rm.cs v xs/\Bd (fun x f=>Fv wv x.num f∨Fw w0 w x.num f) xs fs
theorem Rc.nil:Rc wv w0 w (.slice none 0 0) []:=⟨[],Rr.nil _ _ _ _ _,Bd.nil⟩
theorem Rc.keep (h:Rc wv w0 w v fs) (hb:Below w.heap.size w w'):Rc wv w0 w' v fs:=by
 obtain ⟨xs,h1,h2⟩:=h;exact ⟨xs,h1.keep hb,h2.imp fun x f hf=>hf.imp id fun k=>k.keep hb⟩
theorem Rc.keepT (h:Rc wv w0 w v fs) (k1:Ak 36 w w') (k2:Ak 146 w w') (hb:Below w0.heap.size w0 w'):Rc wv w0 w' v fs:=by
 obtain ⟨xs,h1,h2⟩:=h;exact ⟨xs,h1.keepT k1,h2.imp fun x f hf=>hf.imp id fun k=>k.keepT k2 hb⟩
theorem Rc.stay (h:Rc wv w0 w u fs) (ha:AM v u) (k4:∀ g,g<w.heap.size->v.ownBlock≠some g->w'.heap[g]?=w.heap[g]?) (k2:Ak 146 w w') (hb:Below w0.heap.size w0 w'):Rc wv w0 w' u fs:=by
 obtain ⟨xs,h1,h2⟩:=h;exact ⟨xs,h1.stay ha k4,h2.imp fun x f hf=>hf.imp id fun k=>k.keepT k2 hb⟩
theorem Rc.apart (h:Rc wv w0 w u fs) (ha:AM v u) (hw:∀ k,v'.ownBlock=some k->v.ownBlock=some k∨w.heap.size<=k):AM v' u:=by
 obtain ⟨xs,h1,h2⟩:=h;exact h1.apart ha hw
theorem Rc.shape (h:Rc wv w0 w v fs):∃ A cap,v=.slice A fs.length cap:=by
 obtain ⟨xs,h1,h2⟩:=h;obtain ⟨A,cap,e,-⟩:=h1.shape;exact ⟨A,cap,by rw [e,h2.1]⟩
theorem Rc.fresh (h:Rc wv w0 w v fs) {g n k:Nat} (hg:w.heap.size<=g):AM v (.slice (some ⟨g,0,none⟩) n k):=fun j h1 h2=>by
 obtain ⟨xs,h3,-⟩:=h;have:=(World.ownsRow.lt h3 j h1).2;simp [Value.ownBlock] at h2;omega
theorem Dw {T:TypeId} {g n k:Nat} {us:List Value} (h:Bl w T g us) (ha:AM v (.slice (some ⟨g,0,none⟩) n k)) (k4:∀ g,g<w.heap.size->v.ownBlock≠some g->w'.heap[g]?=w.heap[g]?):Bl w' T g us:=
 (k4 g h.lt fun e=>ha g e (by simp [Value.ownBlock])).trans h
theorem Fe {o:Oper} {a:Act} {K:Act->World->Prop} {Q:Exit->Act->World->Prop} (sO xO:Operand)
 (ho:o.op=.call { callee:=.builtin .append,args:=#[sO,xO],argTypes:=#[24,24] }) {gn:Nat} {x:Rm} (hs:a.eval sO=v) (hx:a.eval xO=.slice (some ⟨gn,0,none⟩) 1 1)
 (h:Rc wv w0 w v fs) (hf:Fv wv x.num f∨Fw w0 w x.num f) (hn:Bl w 36 gn x.cs) (hl:fs.length<=1048576) (hb:Yg w0 w)
 (hk:∀ v' w',Rc wv w0 w' v' (fs++[f])->Yg w0 w'->(∀ T',36≠T'->Ak T' w w')->(∀ g,g<w.heap.size->v.ownBlock≠some g->w'.heap[g]?=w.heap[g]?)->(∀ k,v'.ownBlock=some k->v.ownBlock=some k∨w.heap.size<=k)->K (a.put o.dst v') w'):o.wp Tryz.prog a w K Q:=by
 obtain ⟨xs,h1,h2⟩:=h;refine On (f:=Rm.cs) (x:=x) Tryz.underlying24 G3 ⟨Yd,rfl,Yd⟩ Rm.len Rm.one sO xO ho hs hx h1 hn (by rw [h2.1];exact hl) hb ?_;intro v' w' k1 k2 k3 k4 k5;exact hk v' w' ⟨_,k1,(h2.imp fun x f hf=>hf.imp id fun k=>k.keepT (k3 _ Yd) k2).app (hf.imp id fun k=>k.keepT (k3 _ Yd) k2)⟩ k2 k3 k4 k5
def Rb (w0 w:World) (v:Value) (bs:List Bool):Prop:=Rr w w0.heap.size 4 1 bcs v bs
theorem Rb.shape (h:Rb w0 w v bs):∃ A cap,v=.slice A bs.length cap:=by
 obtain ⟨A,cap,e,-⟩:=Rr.shape h;exact ⟨A,cap,e⟩
theorem Rb.fresh (h:Rb w0 w v bs) {g n k:Nat} (hg:w.heap.size<=g):AM v (.slice (some ⟨g,0,none⟩) n k):=fun j h1 h2=>by
 have:=(World.ownsRow.lt h j h1).2;simp [Value.ownBlock] at h2;omega
theorem Lh {o:Oper} {a:Act} {K:Act->World->Prop} {Q:Exit->Act->World->Prop} (sO xO:Operand)
 (ho:o.op=.call { callee:=.builtin .append,args:=#[sO,xO],argTypes:=#[23,23] }) {gn:Nat} (hs:a.eval sO=v) (hx:a.eval xO=.slice (some ⟨gn,0,none⟩) 1 1)
 (h:Rb w0 w v bs) (hn:Bl w 4 gn [.bool b]) (hl:bs.length<=1048576) (hb:Yg w0 w)
 (hk:∀ v' w',Rb w0 w' v' (bs++[b])->Yg w0 w'->(∀ T',4≠T'->Ak T' w w')->(∀ g,g<w.heap.size->v.ownBlock≠some g->w'.heap[g]?=w.heap[g]?)->(∀ k,v'.ownBlock=some k->v.ownBlock=some k∨w.heap.size<=k)->K (a.put o.dst v') w'):o.wp Tryz.prog a w K Q:=
 On (f:=bcs) (x:=b) Tryz.underlying23 Fj ⟨Yd,rfl,Yd⟩ Ge Mc sO xO ho hs hx h hn hl hb hk
def Sb (w0 w:World) (v u:Value) (bs cs:List Bool):Prop:=Rb w0 w v bs/\Rb w0 w u cs/\AM v u
def Sd (wv w0 w:World) (v u z:Value) (fs gs hs:List Fx):Prop:=Rc wv w0 w v fs/\Rc wv w0 w u gs/\Rc wv w0 w z hs/\AM v u/\AM v z/\AM u z
theorem Sb.keep (h:Sb w0 w v u bs cs) (hb:Below w.heap.size w w'):Sb w0 w' v u bs cs:=⟨Rr.keep h.1 hb,Rr.keep h.2.1 hb,h.2.2⟩
theorem Sb.keepT (h:Sb w0 w v u bs cs) (k:Ak 4 w w'):Sb w0 w' v u bs cs:=⟨Rr.keepT h.1 k,Rr.keepT h.2.1 k,h.2.2⟩
variable {z:Value}
theorem Sd.keep (h:Sd wv w0 w v u z fs gs hs) (hb:Below w.heap.size w w'):Sd wv w0 w' v u z fs gs hs:=⟨h.1.keep hb,h.2.1.keep hb,h.2.2.1.keep hb,h.2.2.2⟩
theorem Sd.keepT (h:Sd wv w0 w v u z fs gs hs) (k1:Ak 36 w w') (k2:Ak 146 w w') (hb:Below w0.heap.size w0 w'):Sd wv w0 w' v u z fs gs hs:=⟨h.1.keepT k1 k2 hb,h.2.1.keepT k1 k2 hb,h.2.2.1.keepT k1 k2 hb,h.2.2.2⟩
theorem Sd.app1 {fs':List Fx} (h:Sd wv w0 w v u z fs gs hs) (k1:Rc wv w0 w' v' fs') (hb:Below w0.heap.size w0 w') (k2:Ak 146 w w') (k4:∀ g,g<w.heap.size->v.ownBlock≠some g->w'.heap[g]?=w.heap[g]?) (k5:∀ k,v'.ownBlock=some k->v.ownBlock=some k∨w.heap.size<=k):Sd wv w0 w' v' u z fs' gs hs:=
 ⟨k1,h.2.1.stay h.2.2.2.1 k4 k2 hb,h.2.2.1.stay h.2.2.2.2.1 k4 k2 hb,h.2.1.apart h.2.2.2.1 k5,h.2.2.1.apart h.2.2.2.2.1 k5,h.2.2.2.2.2⟩
theorem Sd.app2 {fs':List Fx} (h:Sd wv w0 w v u z fs gs hs) (k1:Rc wv w0 w' v' fs') (hb:Below w0.heap.size w0 w') (k2:Ak 146 w w') (k4:∀ g,g<w.heap.size->u.ownBlock≠some g->w'.heap[g]?=w.heap[g]?) (k5:∀ k,v'.ownBlock=some k->u.ownBlock=some k∨w.heap.size<=k):Sd wv w0 w' v v' z fs fs' hs:=
 ⟨h.1.stay h.2.2.2.1.symm k4 k2 hb,k1,h.2.2.1.stay h.2.2.2.2.2 k4 k2 hb,(h.1.apart h.2.2.2.1.symm k5).symm,h.2.2.2.2.1,h.2.2.1.apart h.2.2.2.2.2 k5⟩
theorem Sd.app3 {fs':List Fx} (h:Sd wv w0 w v u z fs gs hs) (k1:Rc wv w0 w' v' fs') (hb:Below w0.heap.size w0 w') (k2:Ak 146 w w') (k4:∀ g,g<w.heap.size->z.ownBlock≠some g->w'.heap[g]?=w.heap[g]?) (k5:∀ k,v'.ownBlock=some k->z.ownBlock=some k∨w.heap.size<=k):Sd wv w0 w' v u v' fs gs fs':=
 ⟨h.1.stay h.2.2.2.2.1.symm k4 k2 hb,h.2.1.stay h.2.2.2.2.2.symm k4 k2 hb,k1,h.2.2.2.1,(h.1.apart h.2.2.2.2.1.symm k5).symm,(h.2.1.apart h.2.2.2.2.2.symm k5).symm⟩
theorem Sb.app1 {bs':List Bool} (h:Sb w0 w v u bs cs) (k1:Rb w0 w' v' bs') (k4:∀ g,g<w.heap.size->v.ownBlock≠some g->w'.heap[g]?=w.heap[g]?) (k5:∀ k,v'.ownBlock=some k->v.ownBlock=some k∨w.heap.size<=k):Sb w0 w' v' u bs' cs:=
 ⟨k1,Rr.stay h.2.1 h.2.2 k4,Rr.apart h.2.1 h.2.2 k5⟩
theorem Sb.app2 {bs':List Bool} (h:Sb w0 w v u bs cs) (k1:Rb w0 w' v' bs') (k4:∀ g,g<w.heap.size->u.ownBlock≠some g->w'.heap[g]?=w.heap[g]?) (k5:∀ k,v'.ownBlock=some k->u.ownBlock=some k∨w.heap.size<=k):Sb w0 w' v v' bs bs':=
 ⟨Rr.stay h.1 h.2.2.symm k4,k1,(Rr.apart h.1 h.2.2.symm k5).symm⟩
end
structure Wm where
 nm:ByteArray
 p:Bool
 q:Bool
 lo:Rm
 hi:Rm
 ts:Sl
structure Vm where
 nm:ByteArray
 wh:Bool
 p:Bool
 q:Bool
 lo:Rm
 hi:Rm
 co:Rm
def Wm.cs (x:Wm):List Value:=[.string x.nm,.bool x.p,.bool x.q,.bool x.lo.b,.slice x.lo.A x.lo.l x.lo.k,.slice x.lo.B x.lo.m x.lo.d,.bool x.hi.b,.slice x.hi.A x.hi.l x.hi.k,.slice x.hi.B x.hi.m x.hi.d,.slice x.ts.A x.ts.l x.ts.k]
def Vm.cs (x:Vm):List Value:=[.string x.nm,.bool x.wh,.bool x.p,.bool x.q,.bool x.lo.b,.slice x.lo.A x.lo.l x.lo.k,.slice x.lo.B x.lo.m x.lo.d,.bool x.hi.b,.slice x.hi.A x.hi.l x.hi.k,.slice x.hi.B x.hi.m x.hi.d,.bool x.co.b,.slice x.co.A x.co.l x.co.k,.slice x.co.B x.co.m x.co.d]
theorem Wm.len (x:Wm):x.cs.length=10:=rfl
theorem Vm.len (x:Vm):x.cs.length=13:=rfl
structure Wx where
 p:Bool
 q:Bool
 lo:Fx
 hi:Fx
 ts:List (Int × Fx)
structure Vx where
 p:Bool
 q:Bool
 lo:Fx
 hi:Fx
 co:Fx
structure Px where
 rows:List Wx
 vars:List Vx
def Wv (w:World) (x:Wm) (r:Wx):Prop:=x.p=r.p/\x.q=r.q/\Fv w x.lo.num r.lo/\Fv w x.hi.num r.hi/\Tx w x.ts.v r.ts
def Vv (w:World) (x:Vm) (r:Vx):Prop:=x.p=r.p/\x.q=r.q/\Fv w x.lo.num r.lo/\Fv w x.hi.num r.hi/\Fv w x.co.num r.co
def Wr (w:World) (v:Value) (rs:List Wx):Prop:=∃ xs,Rv w Wm.cs v xs/\Bd (Wv w) xs rs
def Vr' (w:World) (v:Value) (rs:List Vx):Prop:=∃ xs,Rv w Vm.cs v xs/\Bd (Vv w) xs rs
def Pv (w:World) (v:Value) (p:Px):Prop:=∃ n1 n2 A a c B b d,v=.agg #[n1,n2,.slice A a c,.slice B b d]/\Wr w (.slice A a c) p.rows/\Vr' w (.slice B b d) p.vars
section
variable {w w':World} {v:Value} {rs:List Wx} {vs:List Vx} {r:Wx} {s:Vx} {i:Nat}
theorem Wr.keep (h:Wr w v rs) (hb:Below w.heap.size w w'):Wr w' v rs:=by
 obtain ⟨xs,h1,h2⟩:=h;exact ⟨xs,h1.keep hb,h2.imp fun x r hr=>⟨hr.1,hr.2.1,hr.2.2.1.keep hb,hr.2.2.2.1.keep hb,hr.2.2.2.2.keep hb⟩⟩
theorem Wr.shape (h:Wr w v rs):∃ A cap,v=.slice A rs.length cap/\rs.length<=maxLen:=by
 obtain ⟨xs,⟨A,cap,e,h1,h3,-⟩,h2⟩:=h;exact ⟨A,cap,by rw [e,h2.1],by rw [<- h2.1];omega⟩
theorem Vr'.shape (h:Vr' w v vs):∃ A cap,v=.slice A vs.length cap/\vs.length<=maxLen:=by
 obtain ⟨xs,⟨A,cap,e,h1,h3,-⟩,h2⟩:=h;exact ⟨A,cap,by rw [e,h2.1],by rw [<- h2.1];omega⟩
theorem Wr.at_ (h:Wr w v rs) (hi:rs[i]?=some r):∃ g o cap,∃ x:Wm,v=.slice (some ⟨g,o,none⟩) rs.length cap/\g<w.heap.size/\Wv w x r/\∀ j u,x.cs[j]?=some u->w.cell? ⟨g,o+(i*10+j),none⟩=some u:=by
 obtain ⟨xs,h1,h2⟩:=h;obtain ⟨x,hx,hr⟩:=h2.left hi;obtain ⟨g,o,cap,e,-,hg,hc⟩:=h1.at_ Yd Wm.len hx;exact ⟨g,o,cap,x,by rw [e,h2.1],hg,hr,hc⟩
theorem Vr'.at_ (h:Vr' w v vs) (hi:vs[i]?=some s):∃ g o cap,∃ x:Vm,v=.slice (some ⟨g,o,none⟩) vs.length cap/\g<w.heap.size/\Vv w x s/\∀ j u,x.cs[j]?=some u->w.cell? ⟨g,o+(i*13+j),none⟩=some u:=by
 obtain ⟨xs,h1,h2⟩:=h;obtain ⟨x,hx,hr⟩:=h2.left hi;obtain ⟨g,o,cap,e,-,hg,hc⟩:=h1.at_ Yd Vm.len hx;exact ⟨g,o,cap,x,by rw [e,h2.1],hg,hr,hc⟩
end
def BI (p:Px) (i k:Nat):Tms:=(List.range k).map fun (j:Nat)=>((j:Int),Bh (qT (p.rows.getD j ⟨false,false,⟨false,[],[]⟩,⟨false,[],[]⟩,[]⟩).ts) i)
def FV (p:Px) (n:Nat):List (List (Int × Fx)):=(List.range n).map fun i=>fqT (mkV (BI p i p.rows.length))
def GP (k:Nat):List (List (Int × Fx)):=(List.range k).map fun (j:Nat)=>[((j:Int),fq (-1))]
def He (p:Px):LPx:=⟨p.vars.length,FV p p.vars.length++GP p.rows.length,p.vars.map Vx.p++p.rows.map Wx.p,p.vars.map Vx.q++p.rows.map Wx.q,p.vars.map Vx.lo++p.rows.map Wx.lo,p.vars.map Vx.hi++p.rows.map Wx.hi,p.vars.map Vx.co++p.rows.map fun _=>fq 0⟩
def TE (p:Px):Prop:=p.rows.length<=100/\p.vars.length<=100/\(∀ r∈p.rows,r.ts.length<=30/\∀ t∈r.ts,t.2.xs.length<=6/\t.2.ds.length<=6)
def L1 (p:Px) (k:Nat) (a:List (List (Int × Fx))) (b c:List Bool) (d e f:List Fx):Prop:=
 a=FV p k/\b=(p.vars.take k).map Vx.p/\c=(p.vars.take k).map Vx.q/\d=(p.vars.take k).map Vx.lo/\e=(p.vars.take k).map Vx.hi/\f=(p.vars.take k).map Vx.co
def L3 (p:Px) (k:Nat) (a:List (List (Int × Fx))) (b c:List Bool) (d e f:List Fx):Prop:=
 a=FV p p.vars.length++GP k/\b=p.vars.map Vx.p++(p.rows.take k).map Wx.p/\c=p.vars.map Vx.q++(p.rows.take k).map Wx.q/\d=p.vars.map Vx.lo++(p.rows.take k).map Wx.lo/\e=p.vars.map Vx.hi++(p.rows.take k).map Wx.hi/\f=p.vars.map Vx.co++(p.rows.take k).map fun _=>fq 0
section
variable {p:Px} {k:Nat} {a:List (List (Int × Fx))} {b c:List Bool} {d e f:List Fx} {r:Wx} {s:Vx}
theorem L1.nil (p:Px):L1 p 0 [] [] [] [] [] []:=⟨rfl,rfl,rfl,rfl,rfl,rfl⟩
theorem L1.next (h:L1 p k a b c d e f) (hs:p.vars[k]?=some s):L1 p (k+1) (a++[fqT (mkV (BI p k p.rows.length))]) (b++[s.p]) (c++[s.q]) (d++[s.lo]) (e++[s.hi]) (f++[s.co]):=by
 obtain ⟨rfl,rfl,rfl,rfl,rfl,rfl⟩:=h;refine ⟨by unfold FV;rw [List.range_succ,Vs];rfl,?_,?_,?_,?_,?_⟩<;>(rw [CZ hs,Vs];rfl)
theorem L3.next (h:L3 p k a b c d e f) (hr:p.rows[k]?=some r):L3 p (k+1) (a++[[((k:Int),fq (-1))]]) (b++[r.p]) (c++[r.q]) (d++[r.lo]) (e++[r.hi]) (f++[fq 0]):=by
 obtain ⟨rfl,rfl,rfl,rfl,rfl,rfl⟩:=h;refine ⟨by unfold GP;rw [List.range_succ,Vs,TR];rfl,?_,?_,?_,?_,?_⟩<;>(rw [CZ hr,Vs,TR];rfl)
theorem L1.turn (h:L1 p p.vars.length a b c d e f):L3 p 0 a b c d e f:=by
 obtain ⟨rfl,rfl,rfl,rfl,rfl,rfl⟩:=h;refine ⟨by simp [GP],?_,?_,?_,?_,?_⟩<;>simp
theorem L3.all (h:L3 p p.rows.length a b c d e f):(⟨p.vars.length,a,b,c,d,e,f⟩:LPx)=He p:=by
 obtain ⟨rfl,rfl,rfl,rfl,rfl,rfl⟩:=h;unfold He;simp
theorem L1.len (h:L1 p k a b c d e f) (hk:k<=p.vars.length):a.length=k/\b.length=k/\c.length=k/\d.length=k/\e.length=k/\f.length=k:=by
 obtain ⟨rfl,rfl,rfl,rfl,rfl,rfl⟩:=h;refine ⟨by simp [FV],?_,?_,?_,?_,?_⟩<;>(rw [Uz,TU];omega)
theorem L3.len (h:L3 p k a b c d e f) (hk:k<=p.rows.length):a.length=p.vars.length+k/\b.length=p.vars.length+k/\c.length=p.vars.length+k/\d.length=p.vars.length+k/\e.length=p.vars.length+k/\f.length=p.vars.length+k:=by
 obtain ⟨rfl,rfl,rfl,rfl,rfl,rfl⟩:=h;refine ⟨by simp [FV,GP],?_,?_,?_,?_,?_⟩<;>(rw [TM,Uz,Uz,TU];omega)
theorem M3 (p:Px) (i:Nat) {j:Nat} (hr:p.rows[j]?=some r):BI p i (j+1)=BI p i j++[((j:Int),Bh (qT r.ts) i)]:=by
 unfold BI;rw [List.range_succ,Vs];simp [TS,hr]
end
def zq (z:Int):Fx:=fq (z:Rat)
theorem MK (z:Int):(zq z).q=(z:Rat):=Ha _
theorem Fo {z:Int} (h:z.natAbs<=1000000):(zq z).xs.length<=6/\(zq z).ds.length<=6:=⟨TP (Kc (IM h)).1 (show 1<=6 by decide),TP (Kc (IM h)).2 (show 1<=6 by decide)⟩
theorem N8:mkV [((0:Int),((2:Int):Rat))]=[((0:Int),((2:Int):Rat))]:=by decide+kernel
theorem Sg:mkV [((0:Int),((-1:Int):Rat))]=[((0:Int),((-1:Int):Rat))]:=by decide+kernel
theorem Qk:(fq (-1)).xs.length<=6/\(fq (-1)).ds.length<=6:=Fo (z:=-1) Yd
def p16:Px:=⟨[⟨false,true,zq 0,zq 7,[((0:Int),zq 2),((1:Int),zq 1)]⟩],[⟨true,false,zq 0,zq 0,zq 0⟩,⟨true,true,zq 2,zq 9,zq 0⟩]⟩
def l16:LPx:=⟨2,[[((0:Int),zq 2)],[((0:Int),zq 1)],[((0:Int),fq (-1))]],[true,true,false],[false,true,true],[zq 0,zq 2,zq 0],[zq 0,zq 9,zq 7],[zq 0,zq 0,fq 0]⟩
theorem SM:Bh (qT [((0:Int),zq 2),((1:Int),zq 1)]) 0=((2:Int):Rat):=by
 show Bh [((0:Int),(zq 2).q),((1:Int),(zq 1).q)] 0=_;rw [MK,MK];decide+kernel
theorem Sx:Bh (qT [((0:Int),zq 2),((1:Int),zq 1)]) 1=((1:Int):Rat):=by
 show Bh [((0:Int),(zq 2).q),((1:Int),(zq 1).q)] 1=_;rw [MK,MK];decide+kernel
theorem Mf:mkV [((0:Int),((1:Int):Rat))]=[((0:Int),((1:Int):Rat))]:=by decide+kernel
theorem Su:He p16=l16:=by
 have hc:BI p16 0 1=[((0:Int),((2:Int):Rat))]:=by
  have e:BI p16 0 1=[((0:Int),Bh (qT [((0:Int),zq 2),((1:Int),zq 1)]) 0)]:=rfl;rw [e,SM]
 have hc1:BI p16 1 1=[((0:Int),((1:Int):Rat))]:=by
  have e:BI p16 1 1=[((0:Int),Bh (qT [((0:Int),zq 2),((1:Int),zq 1)]) 1)]:=rfl;rw [e,Sx]
 have h1:FV p16 2=[fqT (mkV (BI p16 0 1)),fqT (mkV (BI p16 1 1))]:=rfl;rw [hc,hc1,N8,Mf] at h1;have h2:He p16=⟨2,FV p16 2++[[((0:Int),fq (-1))]],[true,true,false],[false,true,true],[zq 0,zq 2,zq 0],[zq 0,zq 9,zq 7],[zq 0,zq 0,fq 0]⟩:=rfl;rw [h2,h1];rfl
theorem R3:TE p16:=by
 refine ⟨Yd,Yd,fun r hr=>?_⟩;rw [Uj.1 hr];refine ⟨Yd,fun t ht=>?_⟩;simp only [Ue,Vj,or_false] at ht
 rcases ht with rfl | rfl<;>exact Fo Yd
theorem PW:Dl 6 l16:=by
 refine ⟨⟨Yd,fun c hc=>?_,fun f hf=>?_⟩,Yd,Yd,Yd⟩
 · simp only [l16,Ue,Vj,or_false] at hc
   rcases hc with rfl | rfl | rfl
   · exact ⟨Yd,fun t ht=>by rw [Uj.1 ht];exact Fo Yd⟩
   · exact ⟨Yd,fun t ht=>by rw [Uj.1 ht];exact Fo Yd⟩
   · exact ⟨Yd,fun t ht=>by rw [Uj.1 ht];exact Qk⟩
 · simp only [l16,Ue,Vj,or_false] at hf
   rcases hf with (rfl | rfl | rfl) | (rfl | rfl | rfl) | (rfl | rfl | rfl)
   all_goals first
    | exact Fo Yd
    | exact Fo (z:=0) Yd
theorem I1 (z:Int):zq z=fq (zq z).q:=by rw [MK];rfl
theorem KD {z:Int} (h:mkV [((0:Int),(z:Rat))]=[((0:Int),(z:Rat))]):[((0:Int),zq z)]=fqT (mkV (qT [((0:Int),zq z)])):=by
 show _=fqT (mkV [((0:Int),(zq z).q)]);rw [MK,h];rfl
theorem IK:AA l16:=by
 refine ⟨⟨Yd,Yd,rfl,rfl,rfl,rfl,rfl⟩,fun k hk=>?_⟩;have hk:k<3:=hk;have e3:fq (-1)=zq (-1):=rfl;have e0:fq 0=zq 0:=rfl;intro c bL bH fL fH fC h1 h2 h3 h4 h5 h6;have hlast:∀ (x:Int × Fx) (t:Int × Fx),[x].getLast?=some t->t=x:=fun x t h=>by simp at h;exact h.symm
 match k,hk with
 | 0,_=>
  cases h1;cases h2;cases h3;cases h4;cases h5;cases h6
  refine ⟨I1 _,I1 _,I1 _,.inl rfl,.inr rfl,KD N8,fun _ t ht=>?_,fun h=>absurd h Yd⟩;rw [hlast _ _ ht];decide
 | 1,_=>
  cases h1;cases h2;cases h3;cases h4;cases h5;cases h6
  refine ⟨I1 _,I1 _,I1 _,.inl rfl,.inl rfl,KD Mf,fun _ t ht=>?_,fun h=>absurd h Yd⟩;rw [hlast _ _ ht];decide
 | 2,_=>
  cases h1;cases h2;cases h3;cases h4;cases h5;cases h6
  exact ⟨I1 _,I1 _,I1 0,.inr rfl,.inl rfl,KD Sg,fun h=>absurd h Yd,fun _=>⟨rfl,rfl⟩⟩
def Ka (o:Option Ti):Bool:=match o with
 | none=>false
 | some t=>decide (t.col=0) && t.up && t.rd && decide (t.v=2)
theorem Qq:Ka (AZ l16 [true,false] 0 0 true)=true:=by decide+kernel
theorem RI:(AO [true,false] l16).2.1.length=2/\(AO [true,false] l16).1.hasHi[0]?=some true/\((AO [true,false] l16).1.hi[1]?).map Fx.q=some 7:=by decide+kernel
end
section
namespace I
section
open Go Go.RowKit Go.Proofs Pl
theorem IQ {w:World} {v:Value} {c:List (Int × Fx)} (h:Tx w v c) (hc:c.length<=30/\∀ t∈c,t.2.xs.length<=6/\t.2.ds.length<=6) (i:Int):Sz 211 (Bh (qT c) i):=by
 refine (I2 (L:=6) (l:=qT c) (fun t ht=>?_) i).mono ?_
 · obtain ⟨u,hu,rfl⟩:=UP.1 ht;obtain ⟨k,hk⟩:=List.getElem?_of_mem hu;obtain ⟨g,o,cap,y,-,-,-,-,hq,-⟩:=h.at_ hk;exact (hq.qv (hc.2 u hu).1 (hc.2 u hu).2).sz Yd
 · have:(qT c).length<=30:=by unfold qT;rw [Uz];exact hc.1
   have:=TW 7 this;omega
end
end I
end
end Go.Proofs.YtlblnmmfphiobaaGreat
