import Derived.Test.YtclaiidoomdklaaGreatM21
set_option maxRecDepth 100000
set_option maxHeartbeats 8000000
set_option linter.unusedVariables false
set_option linter.unusedSimpArgs false
namespace Go.Proofs.YtclaiidoomdklaaGreat
section
section
open Go Go.RowKit Go.Proofs Pl
def Apart (v u:Value):Prop:=∀ k,v.ownBlock=some k->u.ownBlock≠some k
theorem Apart.symm {v u:Value} (h:Apart v u):Apart u v:=fun k h1 h2=>h k h2 h1
section
variable {α β:Type} {f:α->List Value} {f':β->List Value} {xs:List α} {ys:List β} {x:α} {s s' B:Nat} {w w':World} {T T':TypeId} {v v' u:Value}
theorem apart_nil:Apart (.slice none 0 0) u:=fun k h=>by simp [Value.ownBlock] at h
theorem Rr.stay (h:Rr w B T' s' f' u ys) (ha:Apart v u) (hk:∀ g,g<w.heap.size->v.ownBlock≠some g->w'.heap[g]?=w.heap[g]?):Rr w' B T' s' f' u ys:=by
 refine ⟨h.1,?_⟩
 rcases h.2 with hn | ⟨g,cap,cur,rfl,hb,hg,hr⟩
 · exact .inl hn
 · refine .inr ⟨g,cap,cur,rfl,hb,?_,hr⟩
   rw [hk g (Array.getElem?_eq_some_iff.1 hg).1 fun e=>ha g e (by simp [Value.ownBlock])]
   exact hg
theorem Rr.apart (h:Rr w B T' s' f' u ys) (ha:Apart v u) (hw:∀ k,v'.ownBlock=some k->v.ownBlock=some k∨w.heap.size<=k):Apart v' u:=fun k h1 h2=>by
 rcases hw k h1 with h3 | h3
 · exact ha k h3 h2
 · exact absurd (World.ownsRow.lt h k h2).2 (by omega)
theorem run_append_at {S ty:TypeId} {i:TypeInfo} {z:Value} (hS:Tryz.prog.underlying S=some (.slice T)) (hi:Tryz.prog.info? T=some i) (hz:i.zero=some z)
 {zs:List Value} (hown:w.ownsRow B T i.size v xs.length zs) {a:Addr} {news:List Value} (hl:news.length=1*i.size) (hnews:∀ (j:Nat) (u:Value),news[j]?=some u->w.cell? (a.add j)=some u) (h1:∀ u∈news,u.oneCell'=true)
 (hbig:xs.length<=1048576) (hby:(xs.length+1)*i.bytes<=140737488355328)
 {w':World} (hr:(Builtin.append_ #[S,S] ty #[v,.slice (some a) 1 1]).run Tryz.prog w=.ok v' w'):∀ k,v'.ownBlock=some k->v.ownBlock=some k∨w.heap.size<=k:=fun k hk=>by
 rcases hown.2 with ⟨rfl,he⟩ | ⟨g,cap,cur,rfl,hbg,hg,hnc,hcm,hcs,htake⟩
 · have h2:=run_append_nil (P:=Tryz.prog) w S ty T i z hS hi hz a 1 1 news hl hnews (by omega) (by omega) (by have:=hby;rw [he] at this;omega)
   rw [h2] at hr
   injection hr with e1 e2
   rw [<- e1] at hk
   simp [Value.ownBlock] at hk
   exact .inr (by omega)
 · by_cases hroom:xs.length+1<=cap
   · have hfit:xs.length*i.size+news.length<=cur.size:=by rw [hl,hcs,<- Nat.add_mul];exact Nat.mul_le_mul_right _ hroom
     have h2:=run_append_room (P:=Tryz.prog) w S ty T i hS hi g xs.length cap cur hg a 1 1 news hl hnews h1 hroom hfit
     rw [h2] at hr
     injection hr with e1 e2
     rw [<- e1] at hk
     simp [Value.ownBlock] at hk
     exact .inl (by simp [Value.ownBlock,hk])
   · have h2:=run_append_grow (P:=Tryz.prog) w S ty T i z hS hi hz ⟨g,0,none⟩ xs.length cap zs hown.1 (hown.cells (g:=g) rfl) a 1 1 news hl hnews (by omega) (by omega) (growslice_fits (by omega) hby)
     rw [h2] at hr
     injection hr with e1 e2
     rw [<- e1] at hk
     simp [Value.ownBlock] at hk
     exact .inr (by omega)
theorem app_at {S:TypeId} {bytes:Nat} {z:Value} (hS:Tryz.prog.underlying S=some (.slice T)) (hI:(Tryz.prog.info? T).map (fun i=>(i.zero,i.size,i.bytes))=some (some z,s,bytes))
 (hby:0<s/\z.cells.size=s/\bytes<=128) (hf:∀ x,(f x).length=s) (hf1:∀ x,∀ u∈f x,u.oneCell'=true) {o:Oper} {a:Act} {K:Act->World->Prop} {Q:Exit->Act->World->Prop} (sO xO:Operand)
 (ho:o.op=.call { callee:=.builtin .append,args:=#[sO,xO],argTypes:=#[S,S] }) {w0:World} {gn:Nat} (hs:a.eval sO=v) (hx:a.eval xO=.slice (some ⟨gn,0,none⟩) 1 1)
 (hown:Rr w w0.heap.size T s f v xs) (hn:Bl w T gn (f x)) (hl:xs.length<=1048576) (hb:Yg w0 w)
 (h:∀ v' w',Rr w' w0.heap.size T s f v' (xs++[x])->Yg w0 w'->(∀ T',T≠T'->KeepT T' w w')->(∀ g,g<w.heap.size->v.ownBlock≠some g->w'.heap[g]?=w.heap[g]?)->(∀ k,v'.ownBlock=some k->v.ownBlock=some k∨w.heap.size<=k)->K (a.put o.dst v') w'):o.wp Tryz.prog a w K Q:=by
 obtain ⟨i0,hi0,hz0,hz1,hz2⟩:=info_parts hI
 subst hz1
 have h48:(xs.length+1)*i0.bytes<=140737488355328:=by rw [hz2];have:=Nat.mul_le_mul (show xs.length+1<=1048577 by omega) hby.2.2;omega
 have hnl:(f x).length=1*i0.size:=by rw [hf];omega
 obtain ⟨v',w',hr,h1,h2,-⟩:=run_append_own (P:=Tryz.prog) (w:=w) w0.heap.size S o.type T i0 z i0.size i0.bytes hS hi0 hz0 rfl rfl hby.2.1 hby.1 v xs.length (flat f xs) hown ⟨gn,0,none⟩ 1 1 (f x) hnl (fun j u hj=>hn.cell hj) (hf1 x) (by unfold maxLen;omega) h48 hb.size
 have hwh:=run_append_at hS hi0 hz0 (xs:=xs) hown hnl (fun j u hj=>hn.cell hj) (hf1 x) hl h48 hr
 unfold Oper.wp execOp
 simp only [ho,resolve,invoke,builtin,Sem.run_bind,Sem.run_pure,Result.andThen_ok,List.map_toArray,List.map_cons,List.map_nil,hs,hx,hr]
 refine h v' w' ?_ (hb.grown h2 hb.size (fun k hk=>(World.ownsRow.lt hown k hk).1)) (fun T' hT=>own_keepT_of hown h2 hT) (fun g hg hne=>h2.block g hg (fun e=>hne e.symm)) hwh
 unfold Rr
 rw [flat_app,flat_one_,List.length_append]
 exact h1
end
end
end
section
section
open Go Go.RowKit Go.Proofs Pl
section
variable {T e:TypeId} {w w0:World} {g h B:Nat} {us vs:List Value} {x0 x1 x2 x3 x4 x5 x6:Value}
def cells7 (w:World) (g:Nat) (x0 x1 x2 x3 x4 x5 x6:Value):World:=((((((w.setCell ⟨g,0,none⟩ x0).setCell ⟨g,1,none⟩ x1).setCell ⟨g,2,none⟩ x2).setCell ⟨g,3,none⟩ x3).setCell ⟨g,4,none⟩ x4).setCell ⟨g,5,none⟩ x5).setCell ⟨g,6,none⟩ x6
theorem Bl.set7 (X:Bl w T g us) (hl:us.length=7) (x0 x1 x2 x3 x4 x5 x6:Value):Bl (cells7 w g x0 x1 x2 x3 x4 x5 x6) T g [x0,x1,x2,x3,x4,x5,x6]:=by
 have:=((((((X.set 0 x0).set 1 x1).set 2 x2).set 3 x3).set 4 x4).set 5 x5).set 6 x6
 match us,hl with
 | [_,_,_,_,_,_,_],_=>exact this
theorem Bl.keep7 (X:Bl w T g us) (hne:T≠e) (x0 x1 x2 x3 x4 x5 x6:Value):KeepT e w (cells7 w g x0 x1 x2 x3 x4 x5 x6):=(((((((X.keepT1 hne 0 x0).trans ((X.set 0 x0).keepT1 hne 1 x1)).trans (((X.set 0 x0).set 1 x1).keepT1 hne 2 x2)).trans ((((X.set 0 x0).set 1 x1).set 2 x2).keepT1 hne 3 x3)).trans (((((X.set 0 x0).set 1 x1).set 2 x2).set 3 x3).keepT1 hne 4 x4)).trans ((((((X.set 0 x0).set 1 x1).set 2 x2).set 3 x3).set 4 x4).keepT1 hne 5 x5)).trans (((((((X.set 0 x0).set 1 x1).set 2 x2).set 3 x3).set 4 x4).set 5 x5).keepT1 hne 6 x6))
theorem below7 (hb:Below B w0 w) (hg:B<=g) (x0 x1 x2 x3 x4 x5 x6:Value):Below B w0 (cells7 w g x0 x1 x2 x3 x4 x5 x6):=(((((((hb.setCell (p:=⟨g,0,none⟩) hg x0).setCell (p:=⟨g,1,none⟩) hg x1).setCell (p:=⟨g,2,none⟩) hg x2).setCell (p:=⟨g,3,none⟩) hg x3).setCell (p:=⟨g,4,none⟩) hg x4).setCell (p:=⟨g,5,none⟩) hg x5).setCell (p:=⟨g,6,none⟩) hg x6)
end
section
variable {w w' w0 w1:World} {v:Value} {fs:List Fx} {cs:List (List (Int × Fx))} {l:LPx}
theorem Ro.keepT (h:Ro w0 w v fs) (k:KeepT 37 w w') (k2:KeepT 155 w w') (hb:Below w0.heap.size w0 w'):Ro w0 w' v fs:=by
 obtain ⟨xs,h1,h2,h3⟩:=h
 exact ⟨xs,h1.keepT k,h2.imp fun x f hf=>hf.keepT k2 hb,hb⟩
theorem Gw.keepT (h:Gw w0 w v cs) (k:KeepT 32 w w') (k1:KeepT 85 w w') (k2:KeepT 155 w w') (hb:Below w0.heap.size w0 w'):Gw w0 w' v cs:=by
 obtain ⟨xs,h1,h2,h3⟩:=h
 exact ⟨xs,h1.keepT k,h2.imp fun x c hc=>hc.keepT k1 k2 hb,hb⟩
theorem Gw.from (h:Gw w1 w v cs) (hb:Below w0.heap.size w0 w1):Gw w0 w v cs:=by
 obtain ⟨xs,h1,h2,h3⟩:=h
 exact ⟨xs,h1.mono hb.size,h2.imp fun x c hc=>hc.from hb,Yb hb h3⟩
end
end
end
section
section
open Go Go.RowKit Go.Proofs Pl
section
variable {wv w0 w w':World} {v v' u:Value} {fs gs hs:List Fx} {f:Fx} {bs cs:List Bool} {b c:Bool}
def Rc (wv w0 w:World) (v:Value) (fs:List Fx):Prop:=∃ xs,Rr w w0.heap.size 37 3 Rm.cs v xs/\Zip2 (fun x f=>Fv wv x.num f∨Fw w0 w x.num f) xs fs
theorem Rc.nil:Rc wv w0 w (.slice none 0 0) []:=⟨[],Rr.nil _ _ _ _ _,Zip2.nil⟩
theorem Rc.keep (h:Rc wv w0 w v fs) (hb:Below w.heap.size w w'):Rc wv w0 w' v fs:=by
 obtain ⟨xs,h1,h2⟩:=h
 exact ⟨xs,h1.keep hb,h2.imp fun x f hf=>hf.imp id fun k=>k.keep hb⟩
theorem Rc.keepT (h:Rc wv w0 w v fs) (k1:KeepT 37 w w') (k2:KeepT 155 w w') (hb:Below w0.heap.size w0 w'):Rc wv w0 w' v fs:=by
 obtain ⟨xs,h1,h2⟩:=h
 exact ⟨xs,h1.keepT k1,h2.imp fun x f hf=>hf.imp id fun k=>k.keepT k2 hb⟩
theorem Rc.stay (h:Rc wv w0 w u fs) (ha:Apart v u) (k4:∀ g,g<w.heap.size->v.ownBlock≠some g->w'.heap[g]?=w.heap[g]?) (k2:KeepT 155 w w') (hb:Below w0.heap.size w0 w'):Rc wv w0 w' u fs:=by
 obtain ⟨xs,h1,h2⟩:=h
 exact ⟨xs,h1.stay ha k4,h2.imp fun x f hf=>hf.imp id fun k=>k.keepT k2 hb⟩
theorem Rc.apart (h:Rc wv w0 w u fs) (ha:Apart v u) (hw:∀ k,v'.ownBlock=some k->v.ownBlock=some k∨w.heap.size<=k):Apart v' u:=by
 obtain ⟨xs,h1,h2⟩:=h
 exact h1.apart ha hw
theorem Rc.shape (h:Rc wv w0 w v fs):∃ A cap,v=.slice A fs.length cap:=by
 obtain ⟨xs,h1,h2⟩:=h
 obtain ⟨A,cap,e,-⟩:=h1.shape
 exact ⟨A,cap,by rw [e,h2.1]⟩
theorem Rc.fresh (h:Rc wv w0 w v fs) {g n k:Nat} (hg:w.heap.size<=g):Apart v (.slice (some ⟨g,0,none⟩) n k):=fun j h1 h2=>by
 obtain ⟨xs,h3,-⟩:=h
 have:=(World.ownsRow.lt h3 j h1).2
 simp [Value.ownBlock] at h2
 omega
theorem Rc.fin (h:Rc wv w0 w v fs) (hw:Below wv.heap.size wv w0) (k1:KeepT 37 w w') (k2:KeepT 155 w w') (hb:Below wv.heap.size wv w'):Rx w' v fs:=by
 obtain ⟨xs,h1,h2⟩:=h
 exact ⟨xs,(h1.keepT k1).rv,h2.imp fun x f hf=>hf.elim (fun k=>k.keep hb) fun k=>((k.from hw).keepT k2 hb).fv⟩
theorem lit_stay {T:TypeId} {g n k:Nat} {us:List Value} (h:Bl w T g us) (ha:Apart v (.slice (some ⟨g,0,none⟩) n k)) (k4:∀ g,g<w.heap.size->v.ownBlock≠some g->w'.heap[g]?=w.heap[g]?):Bl w' T g us:=
 (k4 g h.lt fun e=>ha g e (by simp [Value.ownBlock])).trans h
theorem app_rc {o:Oper} {a:Act} {K:Act->World->Prop} {Q:Exit->Act->World->Prop} (sO xO:Operand)
 (ho:o.op=.call { callee:=.builtin .append,args:=#[sO,xO],argTypes:=#[24,24] }) {gn:Nat} {x:Rm} (hs:a.eval sO=v) (hx:a.eval xO=.slice (some ⟨gn,0,none⟩) 1 1)
 (h:Rc wv w0 w v fs) (hf:Fv wv x.num f∨Fw w0 w x.num f) (hn:Bl w 37 gn x.cs) (hl:fs.length<=1048576) (hb:Yg w0 w)
 (hk:∀ v' w',Rc wv w0 w' v' (fs++[f])->Yg w0 w'->(∀ T',37≠T'->KeepT T' w w')->(∀ g,g<w.heap.size->v.ownBlock≠some g->w'.heap[g]?=w.heap[g]?)->(∀ k,v'.ownBlock=some k->v.ownBlock=some k∨w.heap.size<=k)->K (a.put o.dst v') w'):o.wp Tryz.prog a w K Q:=by
 obtain ⟨xs,h1,h2⟩:=h
 refine app_at (f:=Rm.cs) (x:=x) Tryz.underlying24 rat_info ⟨by decide,rfl,by decide⟩ Rm.len Rm.one sO xO ho hs hx h1 hn (by rw [h2.1];exact hl) hb ?_
 intro v' w' k1 k2 k3 k4 k5
 exact hk v' w' ⟨_,k1,(h2.imp fun x f hf=>hf.imp id fun k=>k.keepT (k3 _ (by decide)) k2).app (hf.imp id fun k=>k.keepT (k3 _ (by decide)) k2)⟩ k2 k3 k4 k5
def Rb (w0 w:World) (v:Value) (bs:List Bool):Prop:=Rr w w0.heap.size 4 1 bcs v bs
theorem Rb.shape (h:Rb w0 w v bs):∃ A cap,v=.slice A bs.length cap:=by
 obtain ⟨A,cap,e,-⟩:=Rr.shape h
 exact ⟨A,cap,e⟩
theorem Rb.keep (h:Rb w0 w v bs) (hb:Below w.heap.size w w'):Rb w0 w' v bs:=Rr.keep h hb
theorem Rb.fresh (h:Rb w0 w v bs) {g n k:Nat} (hg:w.heap.size<=g):Apart v (.slice (some ⟨g,0,none⟩) n k):=fun j h1 h2=>by
 have:=(World.ownsRow.lt h j h1).2
 simp [Value.ownBlock] at h2
 omega
theorem app_b {o:Oper} {a:Act} {K:Act->World->Prop} {Q:Exit->Act->World->Prop} (sO xO:Operand)
 (ho:o.op=.call { callee:=.builtin .append,args:=#[sO,xO],argTypes:=#[23,23] }) {gn:Nat} (hs:a.eval sO=v) (hx:a.eval xO=.slice (some ⟨gn,0,none⟩) 1 1)
 (h:Rb w0 w v bs) (hn:Bl w 4 gn [.bool b]) (hl:bs.length<=1048576) (hb:Yg w0 w)
 (hk:∀ v' w',Rb w0 w' v' (bs++[b])->Yg w0 w'->(∀ T',4≠T'->KeepT T' w w')->(∀ g,g<w.heap.size->v.ownBlock≠some g->w'.heap[g]?=w.heap[g]?)->(∀ k,v'.ownBlock=some k->v.ownBlock=some k∨w.heap.size<=k)->K (a.put o.dst v') w'):o.wp Tryz.prog a w K Q:=
 app_at (f:=bcs) (x:=b) Tryz.underlying23 bool_info ⟨by decide,rfl,by decide⟩ bcs_len bcs_one sO xO ho hs hx h hn hl hb hk
def Sb (w0 w:World) (v u:Value) (bs cs:List Bool):Prop:=Rb w0 w v bs/\Rb w0 w u cs/\Apart v u
def Sd (wv w0 w:World) (v u z:Value) (fs gs hs:List Fx):Prop:=Rc wv w0 w v fs/\Rc wv w0 w u gs/\Rc wv w0 w z hs/\Apart v u/\Apart v z/\Apart u z
theorem Sb.keep (h:Sb w0 w v u bs cs) (hb:Below w.heap.size w w'):Sb w0 w' v u bs cs:=⟨Rr.keep h.1 hb,Rr.keep h.2.1 hb,h.2.2⟩
theorem Sb.keepT (h:Sb w0 w v u bs cs) (k:KeepT 4 w w'):Sb w0 w' v u bs cs:=⟨Rr.keepT h.1 k,Rr.keepT h.2.1 k,h.2.2⟩
variable {z:Value}
theorem Sd.keep (h:Sd wv w0 w v u z fs gs hs) (hb:Below w.heap.size w w'):Sd wv w0 w' v u z fs gs hs:=⟨h.1.keep hb,h.2.1.keep hb,h.2.2.1.keep hb,h.2.2.2⟩
theorem Sd.keepT (h:Sd wv w0 w v u z fs gs hs) (k1:KeepT 37 w w') (k2:KeepT 155 w w') (hb:Below w0.heap.size w0 w'):Sd wv w0 w' v u z fs gs hs:=⟨h.1.keepT k1 k2 hb,h.2.1.keepT k1 k2 hb,h.2.2.1.keepT k1 k2 hb,h.2.2.2⟩
theorem Sd.app1 {fs':List Fx} (h:Sd wv w0 w v u z fs gs hs) (k1:Rc wv w0 w' v' fs') (hb:Below w0.heap.size w0 w') (k2:KeepT 155 w w') (k4:∀ g,g<w.heap.size->v.ownBlock≠some g->w'.heap[g]?=w.heap[g]?) (k5:∀ k,v'.ownBlock=some k->v.ownBlock=some k∨w.heap.size<=k):Sd wv w0 w' v' u z fs' gs hs:=
 ⟨k1,h.2.1.stay h.2.2.2.1 k4 k2 hb,h.2.2.1.stay h.2.2.2.2.1 k4 k2 hb,h.2.1.apart h.2.2.2.1 k5,h.2.2.1.apart h.2.2.2.2.1 k5,h.2.2.2.2.2⟩
theorem Sd.app2 {fs':List Fx} (h:Sd wv w0 w v u z fs gs hs) (k1:Rc wv w0 w' v' fs') (hb:Below w0.heap.size w0 w') (k2:KeepT 155 w w') (k4:∀ g,g<w.heap.size->u.ownBlock≠some g->w'.heap[g]?=w.heap[g]?) (k5:∀ k,v'.ownBlock=some k->u.ownBlock=some k∨w.heap.size<=k):Sd wv w0 w' v v' z fs fs' hs:=
 ⟨h.1.stay h.2.2.2.1.symm k4 k2 hb,k1,h.2.2.1.stay h.2.2.2.2.2 k4 k2 hb,(h.1.apart h.2.2.2.1.symm k5).symm,h.2.2.2.2.1,h.2.2.1.apart h.2.2.2.2.2 k5⟩
theorem Sd.app3 {fs':List Fx} (h:Sd wv w0 w v u z fs gs hs) (k1:Rc wv w0 w' v' fs') (hb:Below w0.heap.size w0 w') (k2:KeepT 155 w w') (k4:∀ g,g<w.heap.size->z.ownBlock≠some g->w'.heap[g]?=w.heap[g]?) (k5:∀ k,v'.ownBlock=some k->z.ownBlock=some k∨w.heap.size<=k):Sd wv w0 w' v u v' fs gs fs':=
 ⟨h.1.stay h.2.2.2.2.1.symm k4 k2 hb,h.2.1.stay h.2.2.2.2.2.symm k4 k2 hb,k1,h.2.2.2.1,(h.1.apart h.2.2.2.2.1.symm k5).symm,(h.2.1.apart h.2.2.2.2.2.symm k5).symm⟩
theorem Sb.app1 {bs':List Bool} (h:Sb w0 w v u bs cs) (k1:Rb w0 w' v' bs') (k4:∀ g,g<w.heap.size->v.ownBlock≠some g->w'.heap[g]?=w.heap[g]?) (k5:∀ k,v'.ownBlock=some k->v.ownBlock=some k∨w.heap.size<=k):Sb w0 w' v' u bs' cs:=
 ⟨k1,Rr.stay h.2.1 h.2.2 k4,Rr.apart h.2.1 h.2.2 k5⟩
theorem Sb.app2 {bs':List Bool} (h:Sb w0 w v u bs cs) (k1:Rb w0 w' v' bs') (k4:∀ g,g<w.heap.size->u.ownBlock≠some g->w'.heap[g]?=w.heap[g]?) (k5:∀ k,v'.ownBlock=some k->u.ownBlock=some k∨w.heap.size<=k):Sb w0 w' v v' bs bs':=
 ⟨Rr.stay h.1 h.2.2.symm k4,k1,(Rr.apart h.1 h.2.2.symm k5).symm⟩
end
structure Wm where
 nm:ByteArray
 p:Bool
 q:Bool
 lo:Rm
 hi:Rm
 ts:Sl
structure Vm where
 nm:ByteArray
 wh:Bool
 p:Bool
 q:Bool
 lo:Rm
 hi:Rm
 co:Rm
def Wm.cs (x:Wm):List Value:=[.string x.nm,.bool x.p,.bool x.q,.bool x.lo.b,.slice x.lo.A x.lo.l x.lo.k,.slice x.lo.B x.lo.m x.lo.d,.bool x.hi.b,.slice x.hi.A x.hi.l x.hi.k,.slice x.hi.B x.hi.m x.hi.d,.slice x.ts.A x.ts.l x.ts.k]
def Vm.cs (x:Vm):List Value:=[.string x.nm,.bool x.wh,.bool x.p,.bool x.q,.bool x.lo.b,.slice x.lo.A x.lo.l x.lo.k,.slice x.lo.B x.lo.m x.lo.d,.bool x.hi.b,.slice x.hi.A x.hi.l x.hi.k,.slice x.hi.B x.hi.m x.hi.d,.bool x.co.b,.slice x.co.A x.co.l x.co.k,.slice x.co.B x.co.m x.co.d]
theorem Wm.len (x:Wm):x.cs.length=10:=rfl
theorem Vm.len (x:Vm):x.cs.length=13:=rfl
structure Wx where
 p:Bool
 q:Bool
 lo:Fx
 hi:Fx
 ts:List (Int × Fx)
structure Vx where
 p:Bool
 q:Bool
 lo:Fx
 hi:Fx
 co:Fx
structure Px where
 rows:List Wx
 vars:List Vx
def Wv (w:World) (x:Wm) (r:Wx):Prop:=x.p=r.p/\x.q=r.q/\Fv w x.lo.num r.lo/\Fv w x.hi.num r.hi/\Tx w x.ts.v r.ts
def Vv (w:World) (x:Vm) (r:Vx):Prop:=x.p=r.p/\x.q=r.q/\Fv w x.lo.num r.lo/\Fv w x.hi.num r.hi/\Fv w x.co.num r.co
def Wr (w:World) (v:Value) (rs:List Wx):Prop:=∃ xs,Rv w Wm.cs v xs/\Zip2 (Wv w) xs rs
def Vr' (w:World) (v:Value) (rs:List Vx):Prop:=∃ xs,Rv w Vm.cs v xs/\Zip2 (Vv w) xs rs
def Pv (w:World) (v:Value) (p:Px):Prop:=∃ n1 n2 A a c B b d,v=.agg #[n1,n2,.slice A a c,.slice B b d]/\Wr w (.slice A a c) p.rows/\Vr' w (.slice B b d) p.vars
section
variable {w w':World} {v:Value} {rs:List Wx} {vs:List Vx} {r:Wx} {s:Vx} {i:Nat}
theorem Wr.keep (h:Wr w v rs) (hb:Below w.heap.size w w'):Wr w' v rs:=by
 obtain ⟨xs,h1,h2⟩:=h
 exact ⟨xs,h1.keep hb,h2.imp fun x r hr=>⟨hr.1,hr.2.1,hr.2.2.1.keep hb,hr.2.2.2.1.keep hb,hr.2.2.2.2.keep hb⟩⟩
theorem Wr.shape (h:Wr w v rs):∃ A cap,v=.slice A rs.length cap/\rs.length<=maxLen:=by
 obtain ⟨xs,⟨A,cap,e,h1,h3,-⟩,h2⟩:=h
 exact ⟨A,cap,by rw [e,h2.1],by rw [<- h2.1];omega⟩
theorem Vr'.shape (h:Vr' w v vs):∃ A cap,v=.slice A vs.length cap/\vs.length<=maxLen:=by
 obtain ⟨xs,⟨A,cap,e,h1,h3,-⟩,h2⟩:=h
 exact ⟨A,cap,by rw [e,h2.1],by rw [<- h2.1];omega⟩
theorem Wr.at_ (h:Wr w v rs) (hi:rs[i]?=some r):∃ g o cap,∃ x:Wm,v=.slice (some ⟨g,o,none⟩) rs.length cap/\g<w.heap.size/\Wv w x r/\∀ j u,x.cs[j]?=some u->w.cell? ⟨g,o+(i*10+j),none⟩=some u:=by
 obtain ⟨xs,h1,h2⟩:=h
 obtain ⟨x,hx,hr⟩:=h2.left hi
 obtain ⟨g,o,cap,e,-,hg,hc⟩:=h1.at_ (by decide) Wm.len hx
 exact ⟨g,o,cap,x,by rw [e,h2.1],hg,hr,hc⟩
theorem Vr'.at_ (h:Vr' w v vs) (hi:vs[i]?=some s):∃ g o cap,∃ x:Vm,v=.slice (some ⟨g,o,none⟩) vs.length cap/\g<w.heap.size/\Vv w x s/\∀ j u,x.cs[j]?=some u->w.cell? ⟨g,o+(i*13+j),none⟩=some u:=by
 obtain ⟨xs,h1,h2⟩:=h
 obtain ⟨x,hx,hr⟩:=h2.left hi
 obtain ⟨g,o,cap,e,-,hg,hc⟩:=h1.at_ (by decide) Vm.len hx
 exact ⟨g,o,cap,x,by rw [e,h2.1],hg,hr,hc⟩
end
def colM (p:Px) (i k:Nat):Tms:=(List.range k).map fun (j:Nat)=>((j:Int),getV (qT (p.rows.getD j ⟨false,false,⟨false,[],[]⟩,⟨false,[],[]⟩,[]⟩).ts) i)
def colsV (p:Px) (n:Nat):List (List (Int × Fx)):=(List.range n).map fun i=>fqT (mkV (colM p i p.rows.length))
def slacks (k:Nat):List (List (Int × Fx)):=(List.range k).map fun (j:Nat)=>[((j:Int),fq (-1))]
def makeX (p:Px):LPx:=⟨p.vars.length,colsV p p.vars.length++slacks p.rows.length,p.vars.map Vx.p++p.rows.map Wx.p,p.vars.map Vx.q++p.rows.map Wx.q,p.vars.map Vx.lo++p.rows.map Wx.lo,p.vars.map Vx.hi++p.rows.map Wx.hi,p.vars.map Vx.co++p.rows.map fun _=>fq 0⟩
def FitP (p:Px):Prop:=p.rows.length<=100/\p.vars.length<=100/\(∀ r∈p.rows,r.ts.length<=30/\∀ t∈r.ts,t.2.xs.length<=6/\t.2.ds.length<=6)
def L1 (p:Px) (k:Nat) (a:List (List (Int × Fx))) (b c:List Bool) (d e f:List Fx):Prop:=
 a=colsV p k/\b=(p.vars.take k).map Vx.p/\c=(p.vars.take k).map Vx.q/\d=(p.vars.take k).map Vx.lo/\e=(p.vars.take k).map Vx.hi/\f=(p.vars.take k).map Vx.co
def L3 (p:Px) (k:Nat) (a:List (List (Int × Fx))) (b c:List Bool) (d e f:List Fx):Prop:=
 a=colsV p p.vars.length++slacks k/\b=p.vars.map Vx.p++(p.rows.take k).map Wx.p/\c=p.vars.map Vx.q++(p.rows.take k).map Wx.q/\d=p.vars.map Vx.lo++(p.rows.take k).map Wx.lo/\e=p.vars.map Vx.hi++(p.rows.take k).map Wx.hi/\f=p.vars.map Vx.co++(p.rows.take k).map fun _=>fq 0
section
variable {p:Px} {k:Nat} {a:List (List (Int × Fx))} {b c:List Bool} {d e f:List Fx} {r:Wx} {s:Vx}
theorem L1.nil (p:Px):L1 p 0 [] [] [] [] [] []:=⟨rfl,rfl,rfl,rfl,rfl,rfl⟩
theorem L1.next (h:L1 p k a b c d e f) (hs:p.vars[k]?=some s):L1 p (k+1) (a++[fqT (mkV (colM p k p.rows.length))]) (b++[s.p]) (c++[s.q]) (d++[s.lo]) (e++[s.hi]) (f++[s.co]):=by
 obtain ⟨rfl,rfl,rfl,rfl,rfl,rfl⟩:=h
 refine ⟨by unfold colsV;rw [List.range_succ,List.map_append];rfl,?_,?_,?_,?_,?_⟩<;>(rw [take_f hs,List.map_append];rfl)
theorem L3.next (h:L3 p k a b c d e f) (hr:p.rows[k]?=some r):L3 p (k+1) (a++[[((k:Int),fq (-1))]]) (b++[r.p]) (c++[r.q]) (d++[r.lo]) (e++[r.hi]) (f++[fq 0]):=by
 obtain ⟨rfl,rfl,rfl,rfl,rfl,rfl⟩:=h
 refine ⟨by unfold slacks;rw [List.range_succ,List.map_append,List.append_assoc];rfl,?_,?_,?_,?_,?_⟩<;>(rw [take_f hr,List.map_append,List.append_assoc];rfl)
theorem L1.turn (h:L1 p p.vars.length a b c d e f):L3 p 0 a b c d e f:=by
 obtain ⟨rfl,rfl,rfl,rfl,rfl,rfl⟩:=h
 refine ⟨by simp [slacks],?_,?_,?_,?_,?_⟩<;>simp
theorem L3.all (h:L3 p p.rows.length a b c d e f):(⟨p.vars.length,a,b,c,d,e,f⟩:LPx)=makeX p:=by
 obtain ⟨rfl,rfl,rfl,rfl,rfl,rfl⟩:=h
 unfold makeX
 simp
theorem L1.len (h:L1 p k a b c d e f) (hk:k<=p.vars.length):a.length=k/\b.length=k/\c.length=k/\d.length=k/\e.length=k/\f.length=k:=by
 obtain ⟨rfl,rfl,rfl,rfl,rfl,rfl⟩:=h
 refine ⟨by simp [colsV],?_,?_,?_,?_,?_⟩<;>(rw [List.length_map,List.length_take];omega)
theorem L3.len (h:L3 p k a b c d e f) (hk:k<=p.rows.length):a.length=p.vars.length+k/\b.length=p.vars.length+k/\c.length=p.vars.length+k/\d.length=p.vars.length+k/\e.length=p.vars.length+k/\f.length=p.vars.length+k:=by
 obtain ⟨rfl,rfl,rfl,rfl,rfl,rfl⟩:=h
 refine ⟨by simp [colsV,slacks],?_,?_,?_,?_,?_⟩<;>(rw [List.length_append,List.length_map,List.length_map,List.length_take];omega)
theorem colM_succ (p:Px) (i:Nat) {j:Nat} (hr:p.rows[j]?=some r):colM p i (j+1)=colM p i j++[((j:Int),getV (qT r.ts) i)]:=by
 unfold colM
 rw [List.range_succ,List.map_append]
 simp [List.getD_eq_getElem?_getD,hr]
end
end
end
section
namespace I
section
open Go Go.RowKit Go.Proofs Pl
theorem getV_sz {w:World} {v:Value} {c:List (Int × Fx)} (h:Tx w v c) (hc:c.length<=30/\∀ t∈c,t.2.xs.length<=6/\t.2.ds.length<=6) (i:Int):Sz 211 (getV (qT c) i):=by
 refine (sz_get (L:=6) (l:=qT c) (fun t ht=>?_) i).mono ?_
 · obtain ⟨u,hu,rfl⟩:=List.mem_map.1 ht
   obtain ⟨k,hk⟩:=List.getElem?_of_mem hu
   obtain ⟨g,o,cap,y,-,-,-,-,hq,-⟩:=h.at_ hk
   exact (hq.qv (hc.2 u hu).1 (hc.2 u hu).2).sz (by decide)
 · have:(qT c).length<=30:=by unfold qT;rw [List.length_map];exact hc.1
   have:=Nat.mul_le_mul_right 7 this
   omega
end
end I
end
end Go.Proofs.YtclaiidoomdklaaGreat
