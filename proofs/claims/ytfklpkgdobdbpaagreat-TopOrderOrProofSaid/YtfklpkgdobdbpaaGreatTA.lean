import Derived.Test.YtfklpkgdobdbpaaGreatCAC
/- Part of the proofs over YtfklpkgdobdbpaaGreat: PyL, PyM. -/
set_option linter.unusedVariables false
set_option linter.unusedSimpArgs false
set_option linter.unnecessarySimpa false
namespace Go.Pv
section
variable {P:Program}{K:X→St→Prop}{env:Env}{hp:Hp}{nx n id:Nat}{s:Tmp}{x y:Operand}{t:TypeId}
end
section
variable {P:Program}{K:X→St→Prop}{env:Env}{hp:Hp}{nx n id:Nat}{s:Tmp}{x y:Operand}{t:TypeId}
theorem qMQ{α:Type}{f:α→List D}{e k b len:Nat}{l l2:List α}[hs:TSlice P t e k](hf:qjg f k)(h1:qac env x=.os b 0 len)(h2:qac env y=.sl (l2.map f))(hb:lkH hp b=some ⟨k,true,l.map f⟩)(hlen:len=l.length)
  (hz:qjB P e=true) (hby:Nat.ble (P.bytesOf e) 4096=true) (hn:l.length+l2.length≤1000000000) (hd:qak n (some s)=true)
  (hk:K .normal ⟨(s,.os b 0 (l++l2).length)::qfZ b env,(b,⟨k,true,(l++l2).map f⟩)::qg9 b hp,nx,n⟩):qap P (.call {callee:=.builtin .append,args:= #[x,y],argTypes:= #[t,t]}) id (some s) ⟨env,hp,nx,n⟩ K:=by
 have hby':P.bytesOf e≤4096:=Nat.le_of_ble_eq_true hby
 have hap:qcN P (lkH hp) t (qac env x) (qac env y)=some (some b,⟨k,true,(l++l2).map f⟩):=by
  have ho:qaY (lkH hp) (.os b 0 len)=some (l.map f):=by
   have:(l.map f).take l.length=l.map f:=List.take_of_length_le (by simp)
   simp[qaY,hb,hlen,this]
  unfold qcN
  rw[hs.u,h1,h2]
  have hx:qaY (lkH hp) (.sl (l2.map f))=some (l2.map f):=rfl
  simp only[hx,ho,Option.bind_some]
  have hmul:(l.length+l2.length)*P.bytesOf e≤140737488355328:=by
   have:=Nat.mul_le_mul hn hby'
   omega
  rw[if_pos]
  ·rw[hb]
   simp only[Option.bind_some]
   rw[if_pos]
   ·simp[hs.c,qeC hf]
   ·refine⟨.inl hs.c.symm,fun r hr c hc=>?_⟩
    rw[←List.map_append]at hr
    obtain⟨a,_,rfl⟩:=List.mem_map.1 hr
    exact qoO (List.all_eq_true.1 (hf a).2.1 c hc)
  ·refine⟨by rw[hs.c];exact hs.p,fun r hr=>?_,fun r hr c hc=>?_,by simpa using hmul,by simp;omega,hz,rfl⟩
   ·obtain⟨a,_,rfl⟩:=List.mem_map.1 hr
    rw[(hf a).1,hs.c]
   ·obtain⟨a,_,rfl⟩:=List.mem_map.1 hr
    exact List.all_eq_true.1 (hf a).2.2 c hc
 refine qgn hap hd ?_
 have e:(⟨k,true,(l++l2).map f⟩:Blk).rows.length=(l++l2).length:=by simp
 rw[e]
 exact hk
end
end Go.Pv
